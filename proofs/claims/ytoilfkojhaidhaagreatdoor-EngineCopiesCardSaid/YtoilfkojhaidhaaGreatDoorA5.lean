/- Part 5 of the proof that a law of this seat (the one that GOCLAIM.json names) returns true for every argument; nothing is assumed. -/
import Derived.Shelf.Strconv.ParseIntPublic10
import Derived.Below
import Derived.Shelf.Small.Strs
import Derived.Test.YtoilfkojhaidhaaGreatDoorProg
import Derived.LaidLaws
import Derived.RowKit
import Derived.RowKitTokens
import Derived.MakeChecks
import Derived.ProofKit
import Derived.Test.YtoilfkojhaidhaaGreatDoorA4
set_option linter.unusedSimpArgs false
set_option linter.unusedVariables false
set_option linter.all false
namespace Go.Ev
open Go
def Cp (fs:List Fn):List Tok→Js→List Int→Int × Js × List Int
 | [],s,o=>(0,s,o)
 | t::r,s,o=>if (BC fs t s).1=0 then Cp fs r (BC fs t s).2 (o++[s.h]) else ((BC fs t s).1,s,o)
def Eh (fs:List Fn) (ts:List Tok) (ok:Bool):List Int × Int :=
 if ok=false then ([],13) else
 if (Cp fs ts ⟨0,[]⟩ []).1≠0 then ([],(Cp fs ts ⟨0,[]⟩ []).1) else
 if (Cp fs ts ⟨0,[]⟩ []).2.1.h≠-1∧(Cp fs ts ⟨0,[]⟩ []).2.1.h≠1 then ([],14) else ((Cp fs ts ⟨0,[]⟩ []).2.2,0)
def Cl (nest:List Tok→Bool) (fs:List Fn) (k:Int):List Int × Int :=
 if k<0∨(fs.length:Int)≤k then ([],23) else
 match fs[k.toNat]? with
 | none=>([],23)
 | some f=>if (BP f.code).2≠0 then ([],(BP f.code).2) else Eh fs (BP f.code).1 (nest (BP f.code).1)
theorem UZ {o:Oracle} {bar:Nat} {h0 g:H} {fa:AV} {fs:List Fn} (hv:FV h0 fa fs) (hag:Ag h0.n h0 g) {i:Nat} (hi:i<fs.length) {f:Nat} {y:AV} (hy:(fs[i]).cells[f]? = some y) {a c d:Nat} {r:List IOper} {ks:List Fr} {e:Env} {Q:Ex→Env→H→Prop}
  (hw:∀ v1 v2,HC o bar r ks ((d,y)::(c,v2)::(a,v1)::e) g Q) :
  Lh o bar (Hu 3 (some fa) (some (.int .i64 (i:Nat))) g) (some a) (⟨some c,.fadr f (.t a),none⟩::⟨some d,.ld false 1 (.t c),none⟩::r) ks e Q:=by
 have hbi:(i:Int)<(fs.length:Int):=by omega
 rcases hv.cases with ⟨rfl,rfl⟩ | ⟨full,cs,rfl,hl,hx,_⟩ | ⟨id',off,full,all,p',rfl,hlt,hg',hx,_⟩
 ·cases hi
 ·have hcf:cs[i*3+f]? = some y:=by
   obtain ⟨q0,q1,q2⟩:=hx i hi
   match f,hy with
   | 0,hy=>rw [Nat.add_zero,q0];exact hy
   | 1,hy=>rw [q1];exact hy
   | 2,hy=>rw [q2];exact hy
   | n+3,hy=>simp [Fn.cells] at hy
  simp [go_sem,AJ,hi,hbi,hl,hcf]
  exact hw _ _
 ·have hcf:all[off+i*3+f]? = some y:=by
   obtain ⟨q0,q1,q2⟩:=hx i hi
   match f,hy with
   | 0,hy=>rw [Nat.add_zero,q0];exact hy
   | 1,hy=>rw [q1];exact hy
   | 2,hy=>rw [q2];exact hy
   | n+3,hy=>simp [Fn.cells] at hy
  have hg2:=(hag.2 _ hlt).trans hg'
  simp [go_sem,AJ,hi,hbi,hg2,hcf]
  exact hw _ _
section
variable {bar b:Nat} {h:H} {J:Nat} {p m:Int} {fa:AV}
theorem Pi (fs:List Fn) (l:List Tok) (la:AV) (hla:FzV 3 la l.length (l.flatMap Tok.cells)) (hlen:l.length≤2000) (h0:H) (hfv:FV h0 fa fs) (h0n:h0.n≤b) (hbb:bar≤b) (Q:Ex→Env→H→Prop):∀ (k i:Nat) (g:H) (s:Js) (out:List Int),l.length=i+k→b≤g.n→Ag h0.n h0 g→JV g b J p m fa s out→OY fs (l.drop i) s→out.length≤i →
  (∀ e g' x,e.get 4=some .nilsl→e.get 5=some (.int .i64 x)→x≠0→(Cp fs (l.drop i) s out).1=x→Q .ret e g') →
  (∀ e g' s' out',e.get 10=some (.ptr J 0)→Cp fs (l.drop i) s out=(0,s',out')→JV g' b J p m fa s' out'→out'.length≤2000→Q (.exit 0) e g') →
  CW (call tb prim) bar [10,47,48,49] HE [(10,.ptr J 0),(47,la),(48,As l.length),(49,As i)] g Q:=by
 intro k
 induction k with
 | zero =>
  intro i g s out hk hb hag hv hg ho h1 h2
  refine Ad HE.eq_1 ?_
  simp [go_sem,hk]
  exact h2 _ _ s out rfl (by rw [List.drop_eq_nil_of_le (by omega)];rfl) hv (by omega)
 | succ k ih =>
  intro i g s out hk hb hag hv hg ho h1 h2
  refine Ad HE.eq_1 ?_
  have hi:i<l.length:=by omega
  have hbi:(i:Int)<(l.length:Int):=by omega
  have hw:=BF (n:=i) (by omega)
  rcases HZ hla with ⟨rfl,rfl⟩ | ⟨full,cs,rfl,hl,hx,hy⟩
  ·cases hi
  have hyi:=hy i hi
  have hd:l.drop i=l[i]::l.drop (i+1):=List.drop_eq_getElem_cons hi
  rw [hd] at hg h1 h2
  generalize hti:l[i]=t at *
  obtain ⟨hok,hpl,_,hpre,hnext⟩:=hg
  have hbn:bar≤g.n:=by omega
  have hv2:JV ((g.alloc (.cells [.int .i32 0,.int .i64 0,.int .i32 0] 0)).set g.n (.cells t.cells 0)) b J p m fa s out:=by
   obtain ⟨pa,oa,hv⟩:=hv
   exact ⟨pa,oa,hv.mono (by simp [AW,AP]) (fun j hj=>by rw [AI (by omega),AK,if_neg (by omega)])⟩
  have hag2:Ag h0.n h0 ((g.alloc (.cells [.int .i32 0,.int .i64 0,.int .i32 0] 0)).set g.n (.cells t.cells 0)):=⟨by simp only [AW,AP];have:=hag.1;omega,fun j hj=>by rw [AI (by omega),AK,if_neg (by omega),hag.2 j hj]⟩
  obtain ⟨r,g',c1,c2,c3,c4,c5⟩:=Wi (bar:=bar) fs t h0 hfv h0n hag2 hbb (by simp only [AW,AP];omega) hv2 hok hpl (by omega) hpre
  simp only [AW,AP] at c3
  simp only [Tok.cells] at c1
  have hjl:Cp fs (t::l.drop (i+1)) s out=if (BC fs t s).1=0 then Cp fs (l.drop (i+1)) (BC fs t s).2 (out++[s.h]) else ((BC fs t s).1,s,out):=rfl
  rw [hjl] at h1 h2
  subst c2
  by_cases c0:(BC fs t s).1=0
  ·rw [if_pos c0] at h1 h2
   have c0':((BC fs t s).1 != 0)=false:=FU c0
   simp [go_sem,AB,hi,hbi,AJ,hl,hyi,Tok.cells,AL,hbn,c1,c0',hw]
   exact ih (i+1) g' _ _ (by omega) (by omega) ⟨by have:=hag2.1;simp only [AW,AP] at this;omega,fun j hj=>by rw [c4 j (by omega),hag2.2 j hj]⟩ (c5 c0) (hnext c0) (by simp;omega) h1 h2
  ·rw [if_neg c0] at h1 h2
   have c0':((BC fs t s).1 != 0)=true:=FP c0
   simp [go_sem,AB,hi,hbi,AJ,hl,hyi,Tok.cells,AL,hbn,c1,c0']
   exact h1 _ _ _ rfl rfl c0 rfl
theorem Rq (fs:List Fn) (k:Int) (hv:FV h fa fs):∃ a,call tb prim GU [.agg [.int .i64 p,.int .i64 m,fa],.int .i64 k] bar h=some (.tup [a,.int .i64 (Cl (fun l=>(BW l).isSome) fs k).2],h)∧FzV 1 a (Cl (fun l=>(BW l).isSome) fs k).1.length ((Cl (fun l=>(BW l).isSome) fs k).1.flatMap i64c):=by
 suffices hw:∃ r,BK (call tb prim) f_check_Func [.agg [.int .i64 p,.int .i64 m,fa],.int .i64 k] bar h=some (r,h)∧∃ a,r=.tup [a,.int .i64 (Cl (fun l=>(BW l).isSome) fs k).2]∧FzV 1 a (Cl (fun l=>(BW l).isSome) fs k).1.length ((Cl (fun l=>(BW l).isSome) fs k).1.flatMap i64c) by
  obtain ⟨r,h1,a,rfl,h2⟩:=hw;exact ⟨a,AQ SL h1,h2⟩
 refine CG rfl rfl fun K hK=>?_
 have hnil:∀ x,Cl (fun l=>(BW l).isSome) fs k=([],x)→K (.tup [.nilsl,.int .i64 x]):=fun x hx=>by
  refine hK _ ⟨.nilsl,by rw [hx],?_⟩
  rw [hx];exact ⟨rfl,by simp,.inl ⟨rfl,rfl⟩⟩
 have hlen:=hv.len
 by_cases c1:k<0
 ·have:=hnil 23 (by unfold Cl;rw [if_pos (.inl c1)])
  simp [f_check_Func,AO,go_sem,AB,Bf,AA,AE,AD,AV.free.freeL,AF,Vw.one hv,c1,AC,AV.free]
  exact this
 by_cases c2:(fs.length:Int)≤k
 ·have:=hnil 23 (by unfold Cl;rw [if_pos (.inr c2)])
  simp [f_check_Func,AO,go_sem,AB,Bf,AA,AE,AD,AV.free.freeL,AF,Vw.one hv,c1,hlen,c2,AC,AV.free]
  exact this
 obtain ⟨i,hik⟩:∃ i:Nat,k=i:=⟨k.toNat,by omega⟩
 subst hik
 have hi:i<fs.length:=by omega
 have hbi:(i:Int)<(fs.length:Int):=by omega
 have hf:Cl (fun l=>(BW l).isSome) fs (i:Int)=if (BP fs[i].code).2≠0 then ([],(BP fs[i].code).2) else Eh fs (BP fs[i].code).1 ((BW (BP fs[i].code).1).isSome):=by
  unfold Cl;rw [if_neg (by omega)];simp [hi]
 rw [hf] at hK hnil
 have hone:=Vw.one hv
 have hag:∀ o,Ag h.n h (h.alloc o):=fun o=>Ag.alloc _ (Nat.le_refl _)
 obtain ⟨la,ht,hla,hll⟩:=Hs (bar:=h.n) (h:=h.alloc (.cells [.int .i64 p,.int .i64 m,fa] 0)) fs[i].code
 rw [Ql] at ht hla hll
 have hpos:¬ ((i:Int)<0):=by omega
 have c2':¬ ((fs.length:Int)≤(i:Int)):=c2
 have c2n:¬ fs.length≤i:=by omega
 simp [f_check_Func,AO,go_sem,AB,hone,hpos,hlen,c2',c2n]
 refine UZ (f:=2) hv (hag _) hi rfl (fun v1 v2=>?_)
 by_cases d1:(BP fs[i].code).2=0
 ·have d1':((BP fs[i].code).2 != 0)=false:=FU d1
  rw [if_neg (by simp [d1])] at hK hnil
  simp [go_sem,AB,ht,d1']
  have hof:=Pz (pr:=prim) (bar:=h.n) (g:=h.alloc (.cells [.int .i64 p,.int .i64 m,fa] 0)) (BP fs[i].code).1 la hla (by omega)
  have hlla:=(hla.vw h).len
  generalize (BP fs[i].code).1=ts at *
  cases hne:BW ts with
  | none =>
   rw [hne] at hof hnil
   simp [go_sem,AB,Bf,AA,AE,AD,AV.free.freeL,AF,hof,AC,AV.free]
   exact hnil 13 rfl
  | some to =>
   rw [hne] at hof hnil hK
   obtain ⟨ta,hof,_,_⟩:=hof
   have hgood:=Py fs ts hne
   have hag1:Ag h.n h ((h.alloc (.cells [.int .i64 p,.int .i64 m,fa] 0)).alloc (.cells [.int .i64 p,.int .i64 m,fa,.int .i64 0,.nilsl,.nilsl] 0)):=(hag _).trans (Ag.alloc _ (by simp [AP]))
   have hJV:JV ((h.alloc (.cells [.int .i64 p,.int .i64 m,fa] 0)).alloc (.cells [.int .i64 p,.int .i64 m,fa,.int .i64 0,.nilsl,.nilsl] 0)) h.n (h.n+1) p m fa ⟨0,[]⟩ []:=⟨.nilsl,.nilsl,{
    cell:=by simp [AK,AP]
    bJ:=by omega
    Jn:=by simp only [AP];omega
    os:=OS.nil
    oo:=OS.nil
    pJ:=fun q=>q
    oJ:=fun q=>q
    ap:=fun j q=>q.elim }⟩
   simp [go_sem,AB,hof,AX,Af,AL,hone,hlla]
   refine Pi fs ts la hla (by omega) h hv (Nat.le_refl _) (Nat.le_refl _) _ ts.length 0 _ ⟨0,[]⟩ [] (by omega) (by simp only [AP];omega) hag1 hJV (by simpa using hgood) (by simp) (fun e g' x q1 q2 q3 q4=>?_) (fun e g' s' out' q1 q2 q3 q4=>?_)
   ·rw [List.drop_zero] at q4
    have:=hnil x (by simp only [Eh,Option.isSome_some,Bool.true_eq_false,if_false];rw [q4,if_pos q3])
    simp [go_sem,Bf,AA,AE,AD,AV.free.freeL,AF,q1,q2,AC,AV.free]
    exact this
   ·rw [List.drop_zero] at q2
    obtain ⟨pa,oa,hv'⟩:=q3
    by_cases e1:s'.h=-1
    ·have hK':=hK
     obtain ⟨a2,f1,f2,f3⟩:=hv'.oo.freeze (HW _) (by omega) 2
     simp [go_sem,Bf,AA,AE,AD,AV.free.freeL,AF,q1,AG,hv'.cell,e1,f2,f3.free,AC,AV.free]
     refine hK _ ⟨a2,?_,?_⟩
     ·simp [Eh,q2,e1,AF]
     ·simp [Eh,q2,e1];exact f3
    ·have e1':=FP e1
     by_cases e2:s'.h=1
     ·have e2':=FU e2
      obtain ⟨a2,f1,f2,f3⟩:=hv'.oo.freeze (HW _) (by omega) 2
      simp [go_sem,Bf,AA,AE,AD,AV.free.freeL,AF,q1,AG,hv'.cell,e1',e2',f2,f3.free,AC,AV.free]
      refine hK _ ⟨a2,?_,?_⟩
      ·simp [Eh,q2,e2,AF]
      ·simp [Eh,q2,e2];exact f3
     ·have e2':=FP e2
      have:=hnil 14 (by simp only [Eh,Option.isSome_some,Bool.true_eq_false,if_false];rw [q2];simp [e1,e2])
      simp [go_sem,Bf,AA,AE,AD,AV.free.freeL,AF,q1,AG,hv'.cell,e1',e2',AC,AV.free]
      exact this
 ·have d1':((BP fs[i].code).2 != 0)=true:=FP d1
  rw [if_pos d1] at hnil
  simp [go_sem,AB,Bf,AA,AE,AD,AV.free.freeL,AF,ht,d1',AC,AV.free]
  exact hnil _ rfl
end
end Go.Ev
set_option linter.unusedSectionVars false
namespace Go.Ev
open Go
theorem KN (l:List Tok):∀ (a b i:Nat) (s:Mt),Br l (a+b) i s=(Br l a i s).bind (Br l b (i+a))
 | 0,b,i,s=>by simp [Br]
 | a+1,b,i,s=>by
  rw [show a+1+b=(a+b)+1 by omega,Br,Br]
  cases h:BX (Ah l i) i s with
  | none=>rfl
  | some s1 =>
   simp only [Option.bind_some]
   rw [KN l a b (i+1) s1,show i+1+a=i+(a+1) by omega]
def Nm (fs:List Fn) (l:List Tok) (s:Js) (i:Nat):Js:=(l.take i).foldl (fun s t=>(BC fs t s).2) s
theorem TF (fs:List Fn):∀ (l:List Tok) (s:Js) (o:List Int),(Cp fs l s o).1=0→(Cp fs l s o).2.1=Nm fs l s l.length∧∀ i t,l[i]? = some t→(BC fs t (Nm fs l s i)).1=0∧Nm fs l s (i+1)=(BC fs t (Nm fs l s i)).2
 | [],s,o,_=>⟨rfl,fun i t h=>by simp at h⟩
 | t::r,s,o,h=>by
  simp only [Cp] at h ⊢
  split at h
  ·rename_i c
   obtain ⟨h1,h2⟩:=TF fs r _ _ h
   rw [if_pos c]
   refine ⟨h1,fun i u hu=>?_⟩
   match i,hu with
   | 0,hu =>
    simp only [List.getElem?_cons_zero,Option.some.injEq] at hu
    subst hu
    exact ⟨c,rfl⟩
   | i+1,hu =>
    rw [List.getElem?_cons_succ] at hu
    exact h2 i u hu
  ·rename_i c;exact absurd h c
structure Seqs (fs:List Fn) (l:List Tok) (P:Nat→Mt) (J:Nat→Js):Prop where
 p0:P 0=⟨List.replicate l.length (-1),[],0⟩
 j0:J 0=⟨0,[]⟩
 ps:∀ i,i<l.length→BX (Ah l i) i (P i)=some (P (i+1))
 js:∀ i t,l[i]? = some t→(BC fs t (J i)).1=0∧J (i+1)=(BC fs t (J i)).2
 pe:(P l.length).op=[]
 je:(J l.length).h=-1∨(J l.length).h=1
 rel:∀ i,i≤l.length→JRel i (P i) (J i)
theorem XL {l:List Tok} {i:Nat} {t:Tok} (h:l[i]? = some t):Ah l i=t.sign:=by unfold Ah;rw [h]
theorem aJ {fs:List Fn} {l:List Tok} {to:List Int} (hn:BW l=some to) (h0:(Cp fs l ⟨0,[]⟩ []).1=0) (h1:(Cp fs l ⟨0,[]⟩ []).2.1.h=-1∨(Cp fs l ⟨0,[]⟩ []).2.1.h=1) :
  ∃ P J,Seqs fs l P J∧(P l.length).to=to:=by
 obtain ⟨j1,j2⟩:=TF fs l _ _ h0
 rw [j1] at h1
 obtain ⟨P,hP⟩:∃ P:Nat→Mt,P=fun i=>(Br l i 0 ⟨List.replicate l.length (-1),[],0⟩).getD ⟨[],[],0⟩:=⟨_,rfl⟩
 unfold BW at hn
 cases hl:Br l l.length 0 ⟨List.replicate l.length (-1),[],0⟩ with
 | none=>rw [hl] at hn;cases hn
 | some sf =>
  rw [hl] at hn
  simp only at hn
  have hop:sf.op=[]:=by
   by_cases c:sf.op=[]
   ·exact c
   ·rw [if_neg c] at hn;cases hn
  rw [if_pos hop] at hn
  injection hn with hn
  have hs:∀ i,i≤l.length→Br l i 0 ⟨List.replicate l.length (-1),[],0⟩=some (P i):=fun i hi=>by
   have:=KN l i (l.length - i) 0 ⟨List.replicate l.length (-1),[],0⟩
   rw [show i+(l.length - i)=l.length by omega,hl] at this
   cases h:Br l i 0 ⟨List.replicate l.length (-1),[],0⟩ with
   | none=>rw [h] at this;cases this
   | some s=>rw [hP];simp only [h,Option.getD_some]
  have hps:∀ i,i<l.length→BX (Ah l i) i (P i)=some (P (i+1)):=fun i hi=>by
   have:=KN l i 1 0 ⟨List.replicate l.length (-1),[],0⟩
   rw [hs i (by omega),hs (i+1) (by omega)] at this
   simp only [Option.bind_some,Nat.zero_add,Br] at this
   cases h:BX (Ah l i) i (P i) with
   | none=>rw [h] at this;cases this
   | some s=>rw [h] at this;simpa [Br] using this.symm
  have hlast:P l.length=sf:=by
   have:=hs l.length (Nat.le_refl _)
   rw [hl] at this;injection this with this;exact this.symm
  have hrel:∀ i,i≤l.length→JRel i (P i) (Nm fs l ⟨0,[]⟩ i):=by
   intro i
   induction i with
   | zero =>
    intro _
    rw [hP]
    exact ⟨rfl,by simp [Br],by simp [Br],by simp [Br],by simp [Nm],by simp [Nm],by simp [Nm],by simp [Nm],by simp [Nm]⟩
   | succ i ih =>
    intro hi
    have ht:l[i]? = some l[i]:=List.getElem?_eq_getElem (by omega)
    obtain ⟨a,b⟩:=j2 i _ ht
    rw [b]
    exact (ih (by omega)).tok fs _ (by rw [← XL ht];exact hps i (by omega)) a
  exact ⟨P,Nm fs l ⟨0,[]⟩,⟨by rw [hP];rfl,rfl,hps,j2,by rw [hlast];exact hop,h1,hrel⟩,by rw [hlast];exact hn⟩
theorem YA {fs:List Fn} {t:Tok} {s:Js} (h:(BC fs t s).1=0):(Am fs t.sign t.name).2.2=true∧∃ h',BC fs t s=Al t.sign ⟨h',s.ps⟩∧(s.h=-1→h'=-1∧Cf t.sign=true) ∧
  (s.h≠-1→h'=s.h+((Am fs t.sign t.name).2.1 - (Am fs t.sign t.name).1)∧(Am fs t.sign t.name).1≤s.h - Bw s.ps):=by
 unfold BC at h ⊢
 split at h
 ·simp at h
 rename_i c1
 rw [if_neg c1]
 split at h
 ·simp at h
 rename_i c2
 rw [if_neg c2]
 refine ⟨by simpa using c2,?_⟩
 split at h
 ·rename_i c3
  rw [if_pos c3]
  refine ⟨s.h,rfl,fun _=>⟨c3,?_⟩,fun q=>absurd c3 q⟩
  cases hE:Cf t.sign with
  | true=>rfl
  | false=>exact absurd ⟨c3,hE⟩ c1
 rename_i c3
 rw [if_neg c3]
 split at h
 ·simp at h
 rename_i c4
 rw [if_neg c4]
 exact ⟨_,rfl,fun q=>absurd q c3,fun _=>⟨rfl,by omega⟩⟩
def jE (l:List Tok) (J:Nat→Js) (i:Nat):Int:=if Ah l i=59 then (J (i+1)).h else (J i).h
def pend (p:Pt):List Nat:=if p.loop then p.leaves else if 0<p.ot then [p.ot] else [p.fr]
def OZ (l:List Tok) (J:Nat→Js) (to:List Int) (x:Nat):Prop :=
 (Ah l x=63→∃ j:Nat,to[x]? = some (j:Int)∧j≤l.length∧jE l J j=(J (x+1)).h) ∧
 (Ah l x=58∨Ah l x=93∨Ah l x=126→(J x).h≠-1→∃ j:Nat,to[x]? = some (j:Int)∧j≤l.length∧jE l J j=(J x).h)
structure PQ (l:List Tok) (J:Nat→Js) (i:Nat) (p:Pt) (q:Jp):Prop where
 fr:p.fr<i
 sg:Ah l p.fr=if p.loop then 91 else 63
 lp:p.loop=true→(J p.fr).h=q.base∧∀ x ∈ p.leaves,x<i∧Ah l x=126∧(J x).h=q.base∧q.left=true
 iff:p.loop=false→(J (p.fr+1)).h=q.base
 ot:0<p.ot→p.ot<i∧Ah l p.ot=58∧(J p.ot).h=q.fin
structure JI (l:List Tok) (P:Nat→Mt) (J:Nat→Js) (i:Nat):Prop where
 len:(P i).to.length=l.length
 opn:∀ (k:Nat) p q,(P i).op[k]? = some p→(J i).ps[k]? = some q→PQ l J i p q
 cls:∀ x,x<i→(∀ p ∈ (P i).op,x ∉ pend p)→OZ l J (P i).to x
 dis:∀ (k k':Nat) p q,(P i).op[k]? = some p→(P i).op[k']? = some q→k≠k'→∀ x ∈ pend p,x ∉ pend q
 lt:∀ p ∈ (P i).op,∀ x ∈ pend p,x<i
theorem PQ.mono {l:List Tok} {J:Nat→Js} {i:Nat} {p:Pt} {q:Jp} (h:PQ l J i p q):PQ l J (i+1) p q :=
 ⟨by have:=h.fr;omega,h.sg,fun c=>⟨(h.lp c).1,fun x hx=>by obtain ⟨a,b⟩:=(h.lp c).2 x hx;exact ⟨by omega,b⟩⟩,h.iff,fun c=>by obtain ⟨a,b⟩:=h.ot c;exact ⟨by omega,b⟩⟩
theorem JE (v:Int):∀ (l:List Nat) (to:List Int) (x:Nat),(Ei v l to)[x]? = if x ∈ l∧x<to.length then some v else to[x]?
 | [],to,x=>by simp [Ei]
 | k::r,to,x=>by
  rw [Ei,JE v r,List.length_set]
  by_cases c:x ∈ r∧x<to.length
  ·rw [if_pos c,if_pos ⟨List.mem_cons_of_mem _ c.1,c.2⟩]
  ·rw [if_neg c,List.getElem?_set]
   by_cases ck:k=x
   ·subst ck
    by_cases cl:k<to.length
    ·simp [cl]
    ·simp [cl]
   ·rw [if_neg ck,if_neg]
    rintro ⟨h1,h2⟩
    rw [List.mem_cons] at h1
    rcases h1 with h1 | h1
    ·exact ck h1.symm
    ·exact c ⟨h1,h2⟩
section
variable {fs:List Fn} {l:List Tok} {P:Nat→Mt} {J:Nat→Js}
theorem Seqs.eff (S:Seqs fs l P J) {i:Nat} (hi:i<l.length):∃ t h',l[i]? = some t∧Ah l i=t.sign∧(Am fs t.sign t.name).2.2=true∧(Al (Ah l i) ⟨h',(J i).ps⟩).1=0∧J (i+1)=(Al (Ah l i) ⟨h',(J i).ps⟩).2∧((J i).h=-1→h'=-1∧Cf (Ah l i)=true) ∧
  ((J i).h≠-1→h'=(J i).h+((Am fs t.sign t.name).2.1 - (Am fs t.sign t.name).1)∧(Am fs t.sign t.name).1≤(J i).h - Bw (J i).ps):=by
 have ht:l[i]? = some l[i]:=List.getElem?_eq_getElem hi
 obtain ⟨a,b⟩:=S.js i _ ht
 obtain ⟨c,h',d,e,f⟩:=YA a
 have hs:=XL ht
 exact ⟨_,h',ht,hs,c,by rw [hs,← d];exact a,by rw [hs,← d];exact b,by rw [hs];exact e,f⟩
theorem Seqs.ctl (S:Seqs fs l P J) {i:Nat} (hi:i<l.length) (hc:GG (Ah l i)=true):(Al (Ah l i) ⟨(J i).h,(J i).ps⟩).1=0∧J (i+1)=(Al (Ah l i) ⟨(J i).h,(J i).ps⟩).2∧(Cf (Ah l i)=false→(J i).h≠-1):=by
 obtain ⟨t,h',_,hs,_,a,b,c,d⟩:=S.eff hi
 have hh:h'=(J i).h:=by
  by_cases e:(J i).h=-1
  ·rw [(c e).1,e]
  ·rw [(d e).1,← hs,T8 hc];simp
 rw [hh] at a b
 exact ⟨a,b,fun q e=>by rw [(c e).2] at q;cases q⟩
theorem Seqs.semi (S:Seqs fs l P J) {i:Nat} (hs:Ah l i=59) (ha:(J i).h≠-1):(J (i+1)).h=(J i).h:=by
 have hi:i<l.length:=by
  by_cases c:i<l.length
  ·exact c
  ·unfold Ah at hs;rw [List.getElem?_eq_none (by omega)] at hs;cases hs
 obtain ⟨a,b,_⟩:=S.ctl hi (by rw [hs];rfl)
 have hr:=S.rel i (by omega)
 rw [hs] at a b
 have hp:=S.ps i hi
 obtain ⟨p,hp1,_⟩:=(hr.pre hp).2.1 hs
 have hb:=hr.bs p (List.mem_of_getLast? hp1)
 have h0:=hr.h0
 rw [b]
 simp only [Al] at a ⊢
 rw [if_neg (by omega),if_neg (by omega),if_pos trivial,hp1] at a ⊢
 simp only at a ⊢
 split at a
 ·rename_i c
  rw [if_pos c]
  split at a
  ·simp at a
  ·rename_i c2
   rw [if_neg c2]
   show max (J i).h p.fin=(J i).h
   omega
 ·rename_i c
  rw [if_neg c]
  split at a
  ·simp at a
  ·rename_i c2
   rw [if_neg c2]
   show p.base=(J i).h
   omega
theorem Seqs.alive (S:Seqs fs l P J) {i:Nat} (ha:(J i).h≠-1):jE l J i=(J i).h:=by
 unfold jE
 split
 ·rename_i c;exact S.semi c ha
 ·rfl
theorem Seqs.base0 (S:Seqs fs l P J) {i:Nat} (hi:i≤l.length) {k:Nat} {q:Jp} (h:(J i).ps[k]? = some q):0≤q.base∧-1≤q.fin:=by
 have:=(S.rel i hi).bs q (List.mem_of_getElem? h)
 exact ⟨this.1,this.2.2.1⟩
theorem TK {A:Type} {l:List A} {x:A} (h:l.getLast? = some x):l[l.length - 1]? = some x∧0<l.length:=by
 rw [List.getLast?_eq_getElem?] at h
 obtain ⟨h1,_⟩:=List.getElem?_eq_some_iff.mp h
 exact ⟨h,by omega⟩
theorem Seqs.zero (S:Seqs fs l P J):JI l P J 0:=by
 refine ⟨by rw [S.p0];simp,fun k p q h=>?_,fun x hx=>absurd hx (by omega),fun k k' p q h=>?_,fun p hp=>?_⟩
 ·rw [S.p0] at h;simp at h
 ·rw [S.p0] at h;simp at h
 ·rw [S.p0] at hp;simp at hp
theorem Seqs.push (S:Seqs fs l P J) {i:Nat} (hi:i<l.length) (H:JI l P J i) (hs:Ah l i=63∨Ah l i=91):JI l P J (i+1):=by
 have hp:=S.ps i hi
 have hr:=S.rel i (by omega)
 have hlen:=hr.len
 obtain ⟨t,h',_,hst,_,a,b,c,d⟩:=S.eff hi
 have hne:(J i).h≠-1:=fun e=>by
  have:=(c e).2
  rcases hs with e | e<;>rw [e] at this<;>cases this
 have hP:P (i+1)=⟨(P i).to,(P i).op++[⟨Ah l i == 91,i,0,[]⟩],max (P i).deep ((P i).op.length+1)⟩:=by
  unfold BX at hp
  rcases hs with e | e
  ·rw [if_pos e] at hp
   split at hp
   ·injection hp with hp;rw [← hp,e];rfl
   ·cases hp
  ·rw [if_neg (by omega),if_pos e] at hp
   split at hp
   ·injection hp with hp;rw [← hp,e];rfl
   ·cases hp
 have hJ:J (i+1)=⟨h',(J i).ps++[⟨Ah l i == 91,false,false,h',0⟩]⟩:=by
  rw [b];unfold Al;rw [if_pos hs]
 have hb:∀ q:Jp,q=⟨Ah l i == 91,false,false,h',0⟩→PQ l J (i+1) ⟨Ah l i == 91,i,0,[]⟩ q:=by
  rintro q rfl
  refine ⟨by show i<i+1;omega,?_,fun e=>⟨?_,fun x hx=>by cases hx⟩,fun _=>by show (J (i+1)).h=h';rw [hJ],fun e=>by simp at e⟩
  ·show Ah l i=if (Ah l i == 91)=true then 91 else 63
   rcases hs with e | e<;>rw [e]<;>rfl
  ·show (J i).h=h'
   have e1:Ah l i=91:=by simpa using e
   rw [(d hne).1,← hst,e1,T8 (by rfl)];simp
 refine ⟨by rw [hP];exact H.len,fun k p q h1 h2=>?_,fun x hx hn=>?_,fun k k' p q h1 h2 hk x hx hx2=>?_,fun p hp2 x hx=>?_⟩
 ·rw [hP] at h1;rw [hJ] at h2
  simp only at h1 h2
  by_cases ck:k<(P i).op.length
  ·rw [List.getElem?_append_left ck] at h1
   rw [List.getElem?_append_left (by omega)] at h2
   exact (H.opn k p q h1 h2).mono
  ·rw [List.getElem?_append_right (by omega)] at h1
   rw [List.getElem?_append_right (by omega),hlen] at h2
   obtain ⟨n,hn⟩:∃ n,n=k - (P i).op.length:=⟨_,rfl⟩
   rw [← hn] at h1 h2
   match n,h1,h2 with
   | 0,h1,h2 =>
    simp only [List.getElem?_cons_zero,Option.some.injEq] at h1 h2
    subst h1
    exact hb q h2.symm
   | n+1,h1,_=>simp at h1
 ·rw [hP] at hn ⊢
  simp only at hn ⊢
  by_cases cx:x<i
  ·exact H.cls x cx fun p hp3=>hn p (List.mem_append_left _ hp3)
  ·have hxi:x=i:=by omega
   subst hxi
   have:=hn _ (List.mem_append_right _ (List.mem_singleton.mpr rfl))
   rcases hs with e | e
   ·exfalso;apply this;unfold pend;simp [e]
   ·exact ⟨fun e2=>by omega,fun e2=>by omega⟩
 ·rw [hP] at h1 h2
  simp only at h1 h2
  have hold:∀ (n:Nat) p,((P i).op++[⟨Ah l i == 91,i,0,[]⟩])[n]? = some p→(n<(P i).op.length∧(P i).op[n]? = some p)∨(n=(P i).op.length∧pend p ⊆ [i]):=fun n p h=>by
   by_cases ck:n<(P i).op.length
   ·rw [List.getElem?_append_left ck] at h;exact .inl ⟨ck,h⟩
   ·rw [List.getElem?_append_right (by omega)] at h
    obtain ⟨m,hm⟩:∃ m,m=n - (P i).op.length:=⟨_,rfl⟩
    rw [← hm] at h
    match m,h with
    | 0,h =>
     simp only [List.getElem?_cons_zero,Option.some.injEq] at h
     subst h
     refine .inr ⟨by omega,fun y hy=>?_⟩
     unfold pend at hy
     simp only at hy
     split at hy
     ·cases hy
     ·simpa using hy
    | m+1,h=>simp at h
  rcases hold k p h1 with ⟨a1,a2⟩ | ⟨a1,a2⟩<;>rcases hold k' q h2 with ⟨b1,b2⟩ | ⟨b1,b2⟩
  ·exact H.dis k k' p q a2 b2 hk x hx hx2
  ·have:=H.lt p (List.mem_of_getElem? a2) x hx
   have h3:=b2 hx2
   simp at h3;omega
  ·have:=H.lt q (List.mem_of_getElem? b2) x hx2
   have h3:=a2 hx
   simp at h3;omega
  ·omega
 ·rw [hP] at hp2
  simp only [List.mem_append,List.mem_singleton] at hp2
  rcases hp2 with hp2 | hp2
  ·have:=H.lt p hp2 x hx;omega
  ·subst hp2
   unfold pend at hx
   simp only at hx
   split at hx
   ·cases hx
   ·simp at hx;omega
end
end Go.Ev
set_option linter.unusedSectionVars false
namespace Go.Ev
open Go
section
variable {fs:List Fn} {l:List Tok} {P:Nat→Mt} {J:Nat→Js}
theorem Seqs.lasts (S:Seqs fs l P J) {i:Nat} (hi:i<l.length) {p:Pt} (hl:(P i).op.getLast? = some p):∃ q,(J i).ps.getLast? = some q∧q.loop=p.loop∧q.other=decide (0<p.ot)∧(J i).ps[(P i).op.length - 1]? = some q∧(P i).op[(P i).op.length - 1]? = some p∧0<(P i).op.length:=by
 have hr:=S.rel i (by omega)
 obtain ⟨q,h1,h2,h3,_,_⟩:=hr.last hl
 obtain ⟨a,b⟩:=TK hl
 have:=(TK h1).1
 rw [hr.len] at this
 exact ⟨q,h1,h2,h3,this,a,b⟩
theorem Seqs.colon (S:Seqs fs l P J) {i:Nat} (hi:i<l.length) (H:JI l P J i) (hs:Ah l i=58):JI l P J (i+1):=by
 have hp:=S.ps i hi
 have hlen:=(S.rel i (by omega)).len
 obtain ⟨a,b,_⟩:=S.ctl hi (by rw [hs];rfl)
 unfold BX at hp
 rw [if_neg (by omega),if_neg (by omega),if_pos hs] at hp
 cases hl:(P i).op.getLast? with
 | none=>rw [hl] at hp;cases hp
 | some p =>
  rw [hl] at hp
  simp only at hp
  obtain ⟨q,hq,q1,q2,q3,q4,q5⟩:=S.lasts hi hl
  split at hp
  ·cases hp
  rename_i c
  simp only [Bool.or_eq_true,decide_eq_true_eq,not_or] at c
  have cl:p.loop=false:=by simpa using c.1
  have co:p.ot=0:=by omega
  injection hp with hp
  have hP:P (i+1)=⟨(P i).to.set p.fr ((i+1:Nat):Int),(P i).op.set ((P i).op.length - 1) ⟨p.loop,p.fr,i,p.leaves⟩,(P i).deep⟩:=hp.symm
  have hJ:J (i+1)=⟨q.base,(J i).ps.set ((J i).ps.length - 1) ⟨q.loop,true,q.left,q.base,(J i).h⟩⟩:=by
   rw [b];unfold Al;rw [if_neg (by omega),if_pos hs,hq]
  have hpq:=H.opn _ p q q4 q3
  have hb:=(S.base0 (by omega) q3).1
  have hi0:0<i:=by have:=hpq.fr;omega
  have pe:pend p=[p.fr]:=by unfold pend;rw [cl,co];rfl
  have hop:∀ (n:Nat) p',(P (i+1)).op[n]? = some p'→(n=(P i).op.length - 1∧p'=⟨p.loop,p.fr,i,p.leaves⟩)∨(n≠(P i).op.length - 1∧(P i).op[n]? = some p'):=fun n p' h=>by
   rw [hP] at h
   simp only at h
   rw [List.getElem?_set] at h
   by_cases cn:(P i).op.length - 1=n
   ·rw [if_pos cn,if_pos (by omega)] at h
    injection h with h
    exact .inl ⟨cn.symm,h.symm⟩
   ·rw [if_neg cn] at h;exact .inr ⟨fun e=>cn e.symm,h⟩
  have pn:pend ⟨p.loop,p.fr,i,p.leaves⟩=[i]:=by unfold pend;simp [cl,hi0]
  refine ⟨by rw [hP];simpa using H.len,fun k p' q' h1 h2=>?_,fun x hx hn=>?_,fun k k' p' q' h1 h2 hk x hx hx2=>?_,fun p' hp2 x hx=>?_⟩
  ·rw [hJ] at h2
   simp only at h2
   rw [List.getElem?_set] at h2
   rcases hop k p' h1 with ⟨rfl,rfl⟩ | ⟨e1,e2⟩
   ·rw [if_pos (by omega),if_pos (by omega)] at h2
    injection h2 with h2
    subst h2
    exact ⟨by have:=hpq.fr;show p.fr<i+1;omega,hpq.sg,fun e=>(by rw [cl] at e;cases e),hpq.iff,fun _=>⟨by show i<i+1;omega,hs,rfl⟩⟩
   ·rw [if_neg (by omega)] at h2
    exact (H.opn k p' q' e2 h2).mono
  ·have hni:x≠i:=fun e=>by
    have hm:(⟨p.loop,p.fr,i,p.leaves⟩:Pt) ∈ (P (i+1)).op:=by
     rw [hP];exact List.mem_of_getElem? (i:=(P i).op.length - 1) (by rw [List.getElem?_set,if_pos rfl,if_pos (by omega)])
    apply hn _ hm
    rw [pn,e];simp
   rw [hP]
   simp only
   by_cases cx:x=p.fr
   ·subst cx
    have hsx:=hpq.sg
    rw [cl] at hsx
    simp only [Bool.false_eq_true,if_false] at hsx
    refine ⟨fun _=>⟨i+1,?_,by omega,?_⟩,fun e=>by rw [hsx] at e;simp at e⟩
    ·rw [List.getElem?_set,if_pos rfl,if_pos (by rw [H.len];omega)]
    ·have hJb:(J (i+1)).h=q.base:=by rw [hJ]
     rw [S.alive (by rw [hJb];omega),hJb,hpq.iff cl]
   ·have:=H.cls x (by omega) fun p' hp'=>by
     obtain ⟨n,hn2⟩:=List.mem_iff_getElem?.mp hp'
     by_cases cn:n=(P i).op.length - 1
     ·subst cn
      rw [q4] at hn2;injection hn2 with hn2;subst hn2
      rw [pe];simpa using cx
     ·exact hn p' (List.mem_of_getElem? (i:=n) (by rw [hP];simp only;rw [List.getElem?_set,if_neg (fun e=>cn e.symm)];exact hn2))
    unfold OZ
    rw [List.getElem?_set,if_neg (fun e=>cx e.symm)]
    exact this
  ·rcases hop k p' h1 with ⟨rfl,rfl⟩ | ⟨e1,e2⟩<;>rcases hop k' q' h2 with ⟨rfl,rfl⟩ | ⟨f1,f2⟩
   ·exact hk rfl
   ·rw [pn] at hx
    have:=H.lt q' (List.mem_of_getElem? f2) x hx2
    simp at hx;omega
   ·rw [pn] at hx2
    have:=H.lt p' (List.mem_of_getElem? e2) x hx
    simp at hx2;omega
   ·exact H.dis k k' p' q' e2 f2 hk x hx hx2
  ·obtain ⟨n,hn2⟩:=List.mem_iff_getElem?.mp hp2
   rcases hop n p' hn2 with ⟨rfl,rfl⟩ | ⟨e1,e2⟩
   ·rw [pn] at hx;simp at hx;omega
   ·have:=H.lt p' (List.mem_of_getElem? e2) x hx;omega
theorem Ln {A:Type} {l:List A} {n:Nat} {x:A} (h:l.dropLast[n]? = some x):n<l.length - 1∧l[n]? = some x:=by
 rw [List.getElem?_dropLast] at h
 split at h
 ·exact ⟨by assumption,h⟩
 ·cases h
theorem JI.close {i:Nat} (H:JI l P J i) {p:Pt} {q:Jp} (hn0:0<(P i).op.length) (q4:(P i).op[(P i).op.length - 1]? = some p) (hto:(P (i+1)).to.length=l.length) (hop:(P (i+1)).op=(P i).op.dropLast) (hps:(J (i+1)).ps=(J i).ps.dropLast)
  (hi':OZ l J (P (i+1)).to i) (hp:∀ x ∈ pend p,OZ l J (P (i+1)).to x) (hold:∀ x,x<i→x ∉ pend p→(P (i+1)).to[x]? = (P i).to[x]?):JI l P J (i+1):=by
 refine ⟨hto,fun k p' q' h1 h2=>?_,fun x hx hn=>?_,fun k k' p' q' h1 h2 hk x hx hx2=>?_,fun p' hp2 x hx=>?_⟩
 ·rw [hop] at h1;rw [hps] at h2
  exact (H.opn k p' q' (Ln h1).2 (Ln h2).2).mono
 ·rw [hop] at hn
  by_cases ce:x=i
  ·subst ce;exact hi'
  by_cases cp:x ∈ pend p
  ·exact hp x cp
  ·have:=H.cls x (by omega) fun p' hp'=>by
    obtain ⟨n,hn2⟩:=List.mem_iff_getElem?.mp hp'
    by_cases cn:n=(P i).op.length - 1
    ·subst cn
     rw [q4] at hn2;injection hn2 with hn2;subst hn2
     exact cp
    ·refine hn p' (List.mem_of_getElem? (i:=n) ?_)
     obtain ⟨hlt,_⟩:=List.getElem?_eq_some_iff.mp hn2
     rw [List.getElem?_dropLast,if_pos (by omega)];exact hn2
   unfold OZ
   rw [hold x (by omega) cp]
   exact this
 ·rw [hop] at h1 h2
  exact H.dis k k' p' q' (Ln h1).2 (Ln h2).2 hk x hx hx2
 ·rw [hop] at hp2
  have:=H.lt p' (by rw [List.dropLast_eq_take] at hp2;exact List.mem_of_mem_take hp2) x hx
  omega
theorem Seqs.semiS (S:Seqs fs l P J) {i:Nat} (hi:i<l.length) (H:JI l P J i) (hs:Ah l i=59):JI l P J (i+1):=by
 have hp:=S.ps i hi
 have hr:=S.rel i (by omega)
 obtain ⟨a,b,_⟩:=S.ctl hi (by rw [hs];rfl)
 unfold BX at hp
 rw [if_neg (by omega),if_neg (by omega),if_neg (by omega),if_pos hs] at hp
 cases hl:(P i).op.getLast? with
 | none=>rw [hl] at hp;cases hp
 | some p =>
  rw [hl] at hp
  simp only at hp
  obtain ⟨q,hq,q1,q2,q3,q4,q5⟩:=S.lasts hi hl
  split at hp
  ·cases hp
  rename_i c
  have cl:p.loop=false:=by simpa using c
  injection hp with hp
  have hpq:=H.opn _ p q q4 q3
  obtain ⟨hb,hf⟩:=S.base0 (by omega) q3
  have h0:=hr.h0
  obtain ⟨x0,hx0⟩:∃ x0,x0=(if 0<p.ot then p.ot else p.fr):=⟨_,rfl⟩
  have pe:pend p=[x0]:=by unfold pend;rw [cl,hx0];simp only [Bool.false_eq_true,if_false];split<;>rfl
  rw [← hx0] at hp
  have hx0l:x0<l.length:=by
   have:=hpq.fr
   rw [hx0];split
   ·rename_i c;have:=(hpq.ot c).1;omega
   ·omega
  have hJh:jE l J i=(J (i+1)).h:=by unfold jE;rw [if_pos hs]
  rw [hs] at a b
  simp only [Al] at a b
  rw [if_neg (by omega),if_neg (by omega),if_pos trivial,hq] at a b
  simp only at a b
  have hJp:(J (i+1)).ps=(J i).ps.dropLast:=by
   rw [b];split at a
   ·rename_i c1;rw [if_pos c1];split at a
    ·simp at a
    ·rename_i c2;rw [if_neg c2]
   ·rename_i c1;rw [if_neg c1];split at a
    ·simp at a
    ·rename_i c2;rw [if_neg c2]
  refine H.close (p:=p) (q:=q) q5 q4 (by rw [← hp];simpa using H.len) (by rw [← hp]) hJp ⟨fun e=>by omega,fun e=>by omega⟩ (fun x hx=>?_) (fun x hx hx2=>?_)
  ·rw [pe] at hx
   simp only [List.mem_singleton] at hx
   subst hx
   rw [← hp]
   simp only
   have hset:((P i).to.set x (i:Int))[x]? = some (i:Int):=by rw [List.getElem?_set,if_pos rfl,if_pos (by rw [H.len];exact hx0l)]
   by_cases co:0<p.ot
   ·rw [if_pos co] at hx0
    obtain ⟨o1,o2,o3⟩:=hpq.ot co
    have hqo:q.other=true:=by rw [q2];simpa using co
    rw [if_pos hqo] at a b
    refine ⟨fun e=>by rw [hx0,o2] at e;simp at e,fun _ e=>⟨i,hset,by omega,?_⟩⟩
    rw [hJh,hx0,o3]
    rw [hx0,o3] at e
    split at a
    ·simp at a
    ·rename_i c2
     rw [b,if_neg c2]
     show max (J i).h q.fin=q.fin
     omega
   ·rw [if_neg co] at hx0
    have hsx:=hpq.sg
    rw [cl] at hsx
    simp only [Bool.false_eq_true,if_false] at hsx
    have hqo:¬ q.other=true:=by rw [q2];simpa using co
    rw [if_neg hqo] at a b
    refine ⟨fun _=>⟨i,hset,by omega,?_⟩,fun e=>by rw [hx0,hsx] at e;simp at e⟩
    rw [hJh,hx0,hpq.iff cl]
    split at a
    ·simp at a
    ·rename_i c2
     rw [b,if_neg c2]
  ·rw [pe] at hx2
   simp only [List.mem_singleton] at hx2
   rw [← hp]
   simp only
   rw [List.getElem?_set,if_neg (fun e=>hx2 e.symm)]
theorem Seqs.loopE (S:Seqs fs l P J) {i:Nat} (hi:i<l.length) (H:JI l P J i) (hs:Ah l i=93):JI l P J (i+1):=by
 have hp:=S.ps i hi
 have hr:=S.rel i (by omega)
 obtain ⟨a,b,_⟩:=S.ctl hi (by rw [hs];rfl)
 unfold BX at hp
 rw [if_neg (by omega),if_neg (by omega),if_neg (by omega),if_neg (by omega),if_pos hs] at hp
 cases hl:(P i).op.getLast? with
 | none=>rw [hl] at hp;cases hp
 | some p =>
  rw [hl] at hp
  simp only at hp
  obtain ⟨q,hq,q1,q2,q3,q4,q5⟩:=S.lasts hi hl
  split at hp
  case isFalse=>cases hp
  rename_i cl
  injection hp with hp
  have hpq:=H.opn _ p q q4 q3
  obtain ⟨hb,hf⟩:=S.base0 (by omega) q3
  have pe:pend p=p.leaves:=by unfold pend;rw [if_pos cl]
  have hfr:=hpq.fr
  have hsf:=hpq.sg
  rw [if_pos cl] at hsf
  obtain ⟨hlb,hlv⟩:=hpq.lp cl
  rw [hs] at a b
  simp only [Al] at a b
  rw [if_neg (by omega),if_neg (by omega),if_neg (by omega),if_pos trivial,hq] at a b
  simp only at a b
  split at a
  ·simp at a
  rename_i c2
  rw [if_neg c2] at b
  refine H.close (p:=p) (q:=q) q5 q4 (by rw [← hp];simp only;rw [JF,List.length_set];exact H.len) (by rw [← hp]) (by rw [b]) ⟨fun e=>by omega,fun _ e=>⟨p.fr,?_,by omega,?_⟩⟩ (fun x hx=>?_) (fun x hx hx2=>?_)
  ·rw [← hp]
   simp only
   rw [JE,if_neg (fun q=>by have:=(hlv i q.1).1;omega),List.getElem?_set,if_pos rfl,if_pos (by rw [H.len];exact hi)]
  ·unfold jE
   rw [if_neg (by omega),hlb]
   omega
  ·rw [pe] at hx
   obtain ⟨x1,x2,x3,x4⟩:=hlv x hx
   refine ⟨fun e=>by omega,fun _ _=>⟨i+1,?_,by omega,?_⟩⟩
   ·rw [← hp]
    simp only
    rw [JE,if_pos ⟨hx,by rw [List.length_set,H.len];omega⟩]
   ·have hJb:(J (i+1)).h=q.base:=by rw [b,x4];rfl
    rw [S.alive (by rw [hJb];omega),hJb,x3]
  ·rw [pe] at hx2
   rw [← hp]
   simp only
   rw [JE,if_neg (fun q=>hx2 q.1),List.getElem?_set,if_neg (by omega)]
theorem Seqs.leave (S:Seqs fs l P J) {i:Nat} (hi:i<l.length) (H:JI l P J i) (hs:Ah l i=126):JI l P J (i+1):=by
 have hp:=S.ps i hi
 have hr:=S.rel i (by omega)
 have hlen:=hr.len
 obtain ⟨a,b,hne⟩:=S.ctl hi (by rw [hs];rfl)
 unfold BX at hp
 rw [if_neg (by omega),if_neg (by omega),if_neg (by omega),if_neg (by omega),if_neg (by omega),if_pos hs] at hp
 cases hl:Bl (P i).op (P i).op.length with
 | none=>rw [hl] at hp;cases hp
 | some k =>
  rw [hl] at hp
  simp only at hp
  obtain ⟨hk,p,hpk,hpl⟩:=EM _ _ _ hl
  rw [hpk] at hp
  simp only at hp
  injection hp with hp
  have hq:∃ q,(J i).ps[k]? = some q:=⟨_,List.getElem?_eq_getElem (by omega)⟩
  obtain ⟨q,hq⟩:=hq
  have hpq:=H.opn _ p q hpk hq
  rw [hs] at a b
  simp only [Al] at a b
  rw [if_neg (by omega),if_neg (by omega),if_neg (by omega),if_neg (by omega),if_pos trivial,hlen,IX hr.fl,hl] at a b
  simp only at a b
  rw [hq] at a b
  simp only at a b
  split at a
  ·simp at a
  rename_i c
  rw [if_neg c] at b
  have cb:(J i).h=q.base:=by omega
  have hop:∀ (n:Nat) p',(P (i+1)).op[n]? = some p'→(n=k∧p'=⟨p.loop,p.fr,p.ot,p.leaves++[i]⟩)∨(n≠k∧(P i).op[n]? = some p'):=fun n p' h=>by
   rw [← hp] at h
   simp only at h
   rw [List.getElem?_set] at h
   by_cases cn:k=n
   ·rw [if_pos cn,if_pos (by omega)] at h
    injection h with h
    exact .inl ⟨cn.symm,h.symm⟩
   ·rw [if_neg cn] at h;exact .inr ⟨fun e=>cn e.symm,h⟩
  have pe:pend p=p.leaves:=by unfold pend;rw [if_pos hpl]
  have pn:pend ⟨p.loop,p.fr,p.ot,p.leaves++[i]⟩=p.leaves++[i]:=by unfold pend;simp only;rw [if_pos hpl]
  refine ⟨by rw [← hp];exact H.len,fun n p' q' h1 h2=>?_,fun x hx hn=>?_,fun n n' p' q' h1 h2 hnn x hx hx2=>?_,fun p' hp2 x hx=>?_⟩
  ·rw [b] at h2
   simp only at h2
   rw [List.getElem?_set] at h2
   rcases hop n p' h1 with ⟨rfl,rfl⟩ | ⟨e1,e2⟩
   ·rw [if_pos rfl,if_pos (by omega)] at h2
    injection h2 with h2
    subst h2
    refine ⟨by have:=hpq.fr;show p.fr<i+1;omega,hpq.sg,fun _=>⟨(hpq.lp hpl).1,fun x hx=>?_⟩,fun e=>(by have e:p.loop=false:=e;rw [hpl] at e;cases e),fun e=>by obtain ⟨o1,o2⟩:=hpq.ot e;exact ⟨by show p.ot<i+1;omega,o2⟩⟩
    simp only [List.mem_append,List.mem_singleton] at hx
    rcases hx with hx | hx
    ·obtain ⟨x1,x2,x3,x4⟩:=(hpq.lp hpl).2 x hx
     exact ⟨by omega,x2,x3,rfl⟩
    ·subst hx
     exact ⟨by omega,hs,cb,rfl⟩
   ·rw [if_neg (fun e=>e1 e.symm)] at h2
    exact (H.opn n p' q' e2 h2).mono
  ·have hto:(P (i+1)).to=(P i).to:=by rw [← hp]
   have hm:(⟨p.loop,p.fr,p.ot,p.leaves++[i]⟩:Pt) ∈ (P (i+1)).op:=by
    rw [← hp];exact List.mem_of_getElem? (i:=k) (by rw [List.getElem?_set,if_pos rfl,if_pos (by omega)])
   have hx2:=hn _ hm
   rw [pn] at hx2
   simp only [List.mem_append,List.mem_singleton,not_or] at hx2
   rw [hto]
   refine H.cls x (by omega) fun p' hp'=>?_
   obtain ⟨n,hn2⟩:=List.mem_iff_getElem?.mp hp'
   by_cases cn:n=k
   ·subst cn
    rw [hpk] at hn2;injection hn2 with hn2;subst hn2
    rw [pe];exact hx2.1
   ·exact hn p' (List.mem_of_getElem? (i:=n) (by rw [← hp];simp only;rw [List.getElem?_set,if_neg (fun e=>cn e.symm)];exact hn2))
  ·rcases hop n p' h1 with ⟨rfl,rfl⟩ | ⟨e1,e2⟩<;>rcases hop n' q' h2 with ⟨rfl,rfl⟩ | ⟨f1,f2⟩
   ·exact hnn rfl
   ·rw [pn] at hx
    have:=H.lt q' (List.mem_of_getElem? f2) x hx2
    simp only [List.mem_append,List.mem_singleton] at hx
    rcases hx with hx | hx
    ·exact H.dis _ _ p q' hpk f2 hnn x (by rw [pe];exact hx) hx2
    ·omega
   ·rw [pn] at hx2
    have:=H.lt p' (List.mem_of_getElem? e2) x hx
    simp only [List.mem_append,List.mem_singleton] at hx2
    rcases hx2 with hx2 | hx2
    ·exact H.dis _ _ p' p e2 hpk hnn x hx (by rw [pe];exact hx2)
    ·omega
   ·exact H.dis n n' p' q' e2 f2 hnn x hx hx2
  ·obtain ⟨n,hn2⟩:=List.mem_iff_getElem?.mp hp2
   rcases hop n p' hn2 with ⟨rfl,rfl⟩ | ⟨e1,e2⟩
   ·rw [pn] at hx
    simp only [List.mem_append,List.mem_singleton] at hx
    rcases hx with hx | hx
    ·have:=H.lt p (List.mem_of_getElem? hpk) x (by rw [pe];exact hx);omega
    ·omega
   ·have:=H.lt p' (List.mem_of_getElem? e2) x hx;omega
theorem Seqs.rest (S:Seqs fs l P J) {i:Nat} (hi:i<l.length) (H:JI l P J i) (hs:Ah l i≠63∧Ah l i≠91∧Ah l i≠58∧Ah l i≠59∧Ah l i≠93∧Ah l i≠126):JI l P J (i+1):=by
 obtain ⟨s1,s2,s3,s4,s5,s6⟩:=hs
 have hp:=S.ps i hi
 unfold BX at hp
 rw [if_neg s1,if_neg s2,if_neg s3,if_neg s4,if_neg s5,if_neg s6] at hp
 injection hp with hp
 obtain ⟨t,h',_,_,_,a,b,_⟩:=S.eff hi
 have hJ:(J (i+1)).ps=(J i).ps:=by
  rw [b];unfold Al
  rw [if_neg (by omega),if_neg s3,if_neg s4,if_neg s5,if_neg s6]
  split<;>rfl
 refine ⟨by rw [← hp];exact H.len,fun n p' q' h1 h2=>?_,fun x hx hn=>?_,fun n n' p' q' h1 h2 hk x hx hx2=>?_,fun p' hp2 x hx=>?_⟩
 ·rw [← hp] at h1;rw [hJ] at h2;exact (H.opn n p' q' h1 h2).mono
 ·rw [← hp] at hn ⊢
  by_cases cx:x=i
  ·subst cx;exact ⟨fun e=>absurd e s1,fun e=>by omega⟩
  ·exact H.cls x (by omega) hn
 ·rw [← hp] at h1 h2;exact H.dis n n' p' q' h1 h2 hk x hx hx2
 ·rw [← hp] at hp2;have:=H.lt p' hp2 x hx;omega
theorem Seqs.all (S:Seqs fs l P J):∀ i,i≤l.length→JI l P J i
 | 0,_=>S.zero
 | i+1,h=>by
  have H:=S.all i (by omega)
  by_cases c1:Ah l i=63∨Ah l i=91
  ·exact S.push (by omega) H c1
  by_cases c2:Ah l i=58
  ·exact S.colon (by omega) H c2
  by_cases c3:Ah l i=59
  ·exact S.semiS (by omega) H c3
  by_cases c4:Ah l i=93
  ·exact S.loopE (by omega) H c4
  by_cases c5:Ah l i=126
  ·exact S.leave (by omega) H c5
  ·exact S.rest (by omega) H ⟨by omega,by omega,c2,c3,c4,c5⟩
theorem Seqs.tgt (S:Seqs fs l P J) (x:Nat) (hx:x<l.length):OZ l J (P l.length).to x :=
 (S.all l.length (Nat.le_refl _)).cls x hx fun p hp=>by rw [S.pe] at hp;cases hp
end
end Go.Ev
namespace Go.Ev
open Go
def Ir (p:Jp):Int:=if p.loop then 91 else if p.other then 58 else 63
def Jp.rc (p:Jp):List AV:=[.int .i32 (Ir p),.int .i64 p.base,.int .i64 p.fin,.bool p.left]
theorem Jp.rc_len (p:Jp):p.rc.length=4:=rfl
theorem Jp.rc_one (p:Jp):p.rc.all AV.one=true:=by simp [Jp.rc,AV.one]
structure SVp (g:H) (b S:Nat) (Z:Nat→Prop) (s:Js) (pa:AV):Prop where
 cell:g.get S=some (.cells [.int .i64 s.h,pa] 0)
 bS:b≤S
 Sn:S<g.n
 os:OS 4 g b pa s.ps.length (s.ps.flatMap Jp.rc)
 pS:¬ pa.isAt S
 zz:∀ j,Z j→j<g.n∧j≠S∧¬ pa.isAt j
def SV (g:H) (b S:Nat) (Z:Nat→Prop) (s:Js):Prop:=∃ pa,SVp g b S Z s pa
theorem Fe (a b v:AV):AL [a,b] 0 [v]=[v,b]:=Eq.trans rfl rfl
theorem IR (a b v:AV):AL [a,b] 1 [v]=[a,v]:=Eq.trans rfl rfl
section
variable {bar b:Nat} {g:H} {S:Nat} {Z:Nat→Prop} {s:Js} {pa:AV}
theorem SVp.mono (hv:SVp g b S Z s pa) {h:H} (hn:g.n≤h.n) (hf:∀ j,j<g.n→h.get j=g.get j):SVp h b S Z s pa where
 cell:=by rw [hf S hv.Sn];exact hv.cell
 bS:=hv.bS
 Sn:=by have:=hv.Sn;omega
 os:=hv.os.mono hn (fun j hj=>hf j (hv.os.at_lt hj).2)
 pS:=hv.pS
 zz:=fun j hj=>⟨by have:=(hv.zz j hj).1;omega,(hv.zz j hj).2⟩
theorem SVp.seth (hv:SVp g b S Z s pa) (x:Int):SVp (g.set S (.cells [.int .i64 x,pa] 0)) b S Z ⟨x,s.ps⟩ pa where
 cell:=by rw [AU,if_pos rfl]
 bS:=hv.bS
 Sn:=hv.Sn
 os:=hv.os.set _ hv.pS
 pS:=hv.pS
 zz:=hv.zz
theorem SVp.last (hv:SVp g b S Z s pa) (hne:s.ps≠[]):∃ id all x,pa=.sl id 0 4 s.ps.length false∧b≤id∧id<g.n∧g.get id=some (.cells all 0)∧id≠S ∧
  s.ps[s.ps.length - 1]? = some x∧x ∈ s.ps∧s.ps.getLast? = some x ∧
  (∀ h:H,g.n≤h.n→h.get id=g.get id→OS 4 h b (.sl id 0 4 (s.ps.length - 1) false) s.ps.dropLast.length (s.ps.dropLast.flatMap Jp.rc)) ∧
  (∀ i x x' f vs (h:H),s.ps[i]? = some x→f+vs.length≤4→Jp.rc x'=AL (Jp.rc x) f vs→(Jp.rc x').all AV.one=true→g.n≤h.n→h.get id=some (.cells (AL all (i*4+f) vs) 0)→OS 4 h b pa (s.ps.set i x').length ((s.ps.set i x').flatMap Jp.rc)) ∧
  (∀ i x,s.ps[i]? = some x→i*4+4≤all.length∧all[i*4]? = some (.int .i32 (Ir x))∧all[i*4+1]? = some (.int .i64 x.base)∧all[i*4+2]? = some (.int .i64 x.fin)∧all[i*4+3]? = some (.bool x.left)):=by
 obtain ⟨id,all,hpa,e1,e2,e3,e4,e5,e6,e7⟩:=hv.os.elems Jp.rc_len hne
 obtain ⟨x,hx1,hx2,hx3,hx4⟩:=EB hne
 have hS:=hv.pS
 rw [hpa] at hS
 refine ⟨id,all,x,hpa,e1,e2,e3,hS,hx3,List.mem_of_getElem? hx3,hx1,e6,e7,fun i y hy=>?_⟩
 obtain ⟨hi,_⟩:=List.getElem?_eq_some_iff.mp hy
 exact ⟨by omega,e5 i y 0 hy (by omega),e5 i y 1 hy (by omega),e5 i y 2 hy (by omega),e5 i y 3 hy (by omega)⟩
theorem Yc (hv:SVp g b S Z s pa) (hl:s.ps.length≤1000):call tb prim CC [.ptr S 0] bar g=some (.int .i64 (Bw s.ps),g):=by
 refine AQ Jm (AZ rfl rfl (BJ ?_))
 by_cases hne:s.ps=[]
 ·have h0:s.ps.length=0:=by rw [hne];rfl
  have hb:Bw s.ps=0:=by rw [hne];rfl
  rw [hb]
  simp [f_engramref9_state_base,AO,go_sem,AN,AM,AA,AE,AD,AC,AV.free.freeL,AV.free,AF,AH,hv.cell,AG,hv.os.len,h0]
 ·obtain ⟨id,all,x,hpa,h1,h2,h3,h4,h6,h7,h8,h9,h10,h11⟩:=hv.last hne
  obtain ⟨q1,q2,q3,q4,q5,q6,q7⟩:=Gb (List.length_pos_iff.mpr hne) hl
  have hb:Bw s.ps=x.base:=by unfold Bw;rw [h8]
  rw [hb]
  have hf:=h11 _ _ h6
  have hpos:=List.length_pos_iff.mpr hne
  subst hpa
  simp [f_engramref9_state_base,AO,go_sem,AN,AM,AA,AE,AD,AC,AV.free.freeL,AV.free,AF,AH,hv.cell,AG,q1,q2,q3,q4,AJ,h3,hf,hne]
def SR (g:H) (b S:Nat) (Z:Nat→Prop) (x:Int × Js) (r:AV) (g':H):Prop:=r=.bool (decide (x.1=0))∧g.n≤g'.n∧(∀ j,j<b∨Z j→g'.get j=g.get j)∧(x.1=0→SV g' b S Z x.2)
theorem Ye (sg:Int) (hE:Cf sg=true) (hbb:bar≤b) (hb:b≤g.n) (hv:SV g b S Z s) (hok:Sa s) (hpre:Qo sg s.ps):∃ r g',call tb prim Cc [.ptr S 0,.int .i32 sg] bar g=some (r,g')∧SR g b S Z (Al sg s) r g':=by
 suffices hw:∃ r g',BK (call tb prim) f_engramref9_state_ends [.ptr S 0,.int .i32 sg] bar g=some (r,g')∧SR g b S Z (Al sg s) r g' by
  obtain ⟨r,h',h1,h2⟩:=hw;exact ⟨r,h',AQ Jo h1,h2⟩
 refine Aj rfl rfl fun K hK=>?_
 obtain ⟨pa,hv⟩:=hv
 obtain ⟨ok1,ok2,ok3,ok4⟩:=hok
 have hE':sg=58∨sg=59∨sg=93:=by simpa [Cf] using hE
 have hne:s.ps≠[]:=by
  rcases hE' with rfl | rfl | rfl
  ·obtain ⟨p,hp,_⟩:=hpre.1 rfl;intro e;rw [e] at hp;cases hp
  ·obtain ⟨p,hp,_⟩:=hpre.2.1 rfl;intro e;rw [e] at hp;cases hp
  ·obtain ⟨p,hp,_⟩:=hpre.2.2.1 rfl;intro e;rw [e] at hp;cases hp
 have hv0:=hv
 obtain ⟨id,all,x,hpa,h1,h2,h3,h4,h6,h7,h8,h9,h10,h11⟩:=hv.last hne
 obtain ⟨q1,q2,q3,q4,q5,q6,q7⟩:=Gb (List.length_pos_iff.mpr hne) ok4
 obtain ⟨f0,f1,f2,f3,f4⟩:=h11 _ _ h6
 obtain ⟨o1,o2,o3,o4⟩:=ok3 x h7
 have hSn:=hv.Sn
 have hbS:bar≤S:=by have:=hv.bS;omega
 have hbi:bar≤id:=by omega
 have n1:S≠id:=fun e=>h4 e.symm
 have hjS:∀ j,j<b∨Z j→j≠S:=fun j hj=>by
  rcases hj with hj | hj
  ·have:=hv.bS;omega
  ·exact (hv.zz j hj).2.1
 have hjI:∀ j,j<b∨Z j→j≠id:=fun j hj=>by
  rcases hj with hj | hj
  ·omega
  ·intro e;exact (hv.zz j hj).2.2 (by rw [hpa,e];rfl)
 have hzz:∀ j,Z j→j<g.n∧j≠S∧¬ (AV.sl id 0 4 (s.ps.length - 1) false).isAt j:=fun j hj=>⟨(hv.zz j hj).1,(hv.zz j hj).2.1,fun e=>hjI j (.inr hj) e.symm⟩
 have hzz0:∀ j,Z j→j<g.n∧j≠S∧¬ (AV.sl id 0 4 s.ps.length false).isAt j:=fun j hj=>⟨(hv.zz j hj).1,(hv.zz j hj).2.1,fun e=>hjI j (.inr hj) e.symm⟩
 have hfrS:∀ c j,j<b∨Z j→(g.set S c).get j=g.get j:=fun c j hj=>AI (hjS j hj)
 rcases hE' with rfl | rfl | rfl
 ·
  obtain ⟨p,hp,hp1,hp2⟩:=hpre.1 rfl
  rw [h8] at hp;injection hp with hp;subst hp
  have hj:Al 58 s=(0,⟨x.base,s.ps.set (s.ps.length - 1) ⟨x.loop,true,x.left,x.base,s.h⟩⟩):=by simp [Al,h8]
  rw [hj] at hK
  have hos1:=h10 (s.ps.length - 1) x ⟨x.loop,true,x.left,x.base,x.fin⟩ 0 [.int .i32 58] (g.set id (.cells (AL all ((s.ps.length - 1)*4) [.int .i32 58]) 0)) h6 (by simp) (by simp [Jp.rc,Ir,hp1,AL]) (Jp.rc_one _) (Nat.le_refl _) (by rw [AU,if_pos rfl];rfl)
  have hne1:s.ps.set (s.ps.length - 1) ⟨x.loop,true,x.left,x.base,x.fin⟩≠[]:=List.length_pos_iff.mp (by rw [List.length_set];exact List.length_pos_iff.mpr hne)
  obtain ⟨id',all',hpa',_,_,h3',hle',_,_,h10'⟩:=hos1.elems Jp.rc_len hne1
  rw [hpa] at hpa'
  injection hpa' with hid
  subst hid
  rw [AU,if_pos rfl] at h3'
  injection h3' with h3'
  injection h3' with h3'
  have hos2:=h10' (s.ps.length - 1) ⟨x.loop,true,x.left,x.base,x.fin⟩ ⟨x.loop,true,x.left,x.base,s.h⟩ 2 [.int .i64 s.h] (((g.set id (.cells (AL all ((s.ps.length - 1)*4) [.int .i32 58]) 0)).set id (.cells (AL all' ((s.ps.length - 1)*4+2) [.int .i64 s.h]) 0)).set S (.cells [.int .i64 x.base,pa] 0))
   (by rw [List.getElem?_set,if_pos rfl,if_pos q2]) (by simp) rfl (Jp.rc_one _) (Nat.le_refl _) (by rw [AI h4,AU,if_pos rfl])
  rw [List.set_set,h3'] at hos2
  rw [List.length_set] at hle'
  have hle1:(s.ps.length - 1)*4+1≤all.length:=by omega
  have hle2:(s.ps.length - 1)*4+2+1≤all'.length:=by omega
  subst hpa
  simp [f_engramref9_state_ends,AO,go_sem,AB,AN,AM,AA,AE,AD,AC,AV.free.freeL,AV.free,AF,AH,hv.cell,AG,q1,q2,q3,AJ,h3,f2,n1,hbi,hle1,h3',hle2,hbS,Fe]
  refine ⟨_,_,⟨rfl,rfl⟩,hK _ _ ⟨by simp [AF],Nat.le_refl _,fun j hj=>by rw [AI (hjS j hj),AI (hjI j hj),AI (hjI j hj)],fun _=>⟨.sl id 0 4 s.ps.length false,?_⟩⟩⟩
  exact { cell:=by rw [AU,if_pos rfl],bS:=hv.bS,Sn:=hv.Sn,os:=hos2,pS:=hv.pS,zz:=hzz0 }
 ·
  obtain ⟨p,hp,hp1⟩:=hpre.2.1 rfl
  rw [h8] at hp;injection hp with hp;subst hp
  have hj:Al 59 s=if x.other then (if s.h≠-1∧x.fin≠-1∧s.h≠x.fin then (14,s) else (0,⟨max s.h x.fin,s.ps.dropLast⟩)) else (if s.h≠-1∧s.h≠x.base then (14,s) else (0,⟨x.base,s.ps.dropLast⟩)):=by
   simp [Al,h8]
  rw [hj] at hK
  have hbase:SVp (g.set S (.cells [.int .i64 s.h,.sl id 0 4 (s.ps.length - 1) false] 0)) b S Z ⟨s.h,s.ps.dropLast⟩ (.sl id 0 4 (s.ps.length - 1) false) :=
   { cell:=by rw [AU,if_pos rfl],bS:=hv.bS,Sn:=hv.Sn,os:=h9 _ (Nat.le_refl _) (AI h4),pS:=h4,zz:=hzz }
  have hgood:∀ y,SV ((g.set S (.cells [.int .i64 s.h,.sl id 0 4 (s.ps.length - 1) false] 0)).set S (.cells [.int .i64 y,.sl id 0 4 (s.ps.length - 1) false] 0)) b S Z ⟨y,s.ps.dropLast⟩:=fun y =>
   ⟨_,hbase.seth y⟩
  have hfr2:∀ c d j,j<b∨Z j→((g.set S c).set S d).get j=g.get j:=fun c d j hj=>by rw [AI (hjS j hj),hfrS c j hj]
  subst hpa
  cases ho:x.other with
  | true =>
   have hs58:Ir x=58:=by simp [Ir,hp1,ho]
   rw [hs58] at f1
   simp only [ho,if_true] at hK
   have hmx:(if x.fin > s.h then x.fin else s.h)=max s.h x.fin:=by split<;>omega
   by_cases c1:x.fin=-1
   ·rw [if_neg (fun e=>e.2.1 c1),← hmx] at hK
    have d1:¬ (0≤x.fin):=by omega
    simp [f_engramref9_state_ends,AO,go_sem,AB,AN,AM,AA,AE,AD,AC,AV.free.freeL,AV.free,AF,AH,hv.cell,AG,q1,q2,q3,q5,q6,q7,AJ,h3,f1,f3,h4,n1,hbS,Fe,IR,BI,Ap,AY,BL,d1]
    exact ⟨_,_,⟨rfl,rfl⟩,hK _ _ ⟨by simp [AF],Nat.le_refl _,fun j hj=>hfr2 _ _ j hj,fun _=>hgood _⟩⟩
   ·have d1:0≤x.fin:=by omega
    by_cases c2:s.h=-1
    ·rw [if_neg (fun e=>e.1 c2),← hmx] at hK
     have d2:¬ (0≤s.h):=by omega
     simp [f_engramref9_state_ends,AO,go_sem,AB,AN,AM,AA,AE,AD,AC,AV.free.freeL,AV.free,AF,AH,hv.cell,AG,q1,q2,q3,q5,q6,q7,AJ,h3,f1,f3,h4,n1,hbS,Fe,IR,BI,Ap,AY,BL,d1,d2]
     exact ⟨_,_,⟨rfl,rfl⟩,hK _ _ ⟨by simp [AF],Nat.le_refl _,fun j hj=>hfr2 _ _ j hj,fun _=>hgood _⟩⟩
    ·have d2:0≤s.h:=by omega
     by_cases c3:s.h=x.fin
     ·rw [if_neg (fun e=>e.2.2 c3),← hmx] at hK
      have d3:(x.fin != s.h)=false:=FU c3.symm
      simp [f_engramref9_state_ends,AO,go_sem,AB,AN,AM,AA,AE,AD,AC,AV.free.freeL,AV.free,AF,AH,hv.cell,AG,q1,q2,q3,q5,q6,q7,AJ,h3,f1,f3,h4,n1,hbS,Fe,IR,BI,Ap,AY,BL,d1,d2,d3]
      exact ⟨_,_,⟨rfl,rfl⟩,hK _ _ ⟨by simp [AF],Nat.le_refl _,fun j hj=>hfr2 _ _ j hj,fun _=>hgood _⟩⟩
     ·rw [if_pos ⟨c2,c1,c3⟩] at hK
      have d3:(x.fin != s.h)=true:=FP (fun e=>c3 e.symm)
      simp [f_engramref9_state_ends,AO,go_sem,AB,AN,AM,AA,AE,AD,AC,AV.free.freeL,AV.free,AF,AH,hv.cell,AG,q1,q2,q3,q5,q6,q7,AJ,h3,f1,f3,h4,n1,hbS,Fe,IR,BI,Ap,AY,BL,d1,d2,d3]
      exact ⟨_,_,⟨rfl,rfl⟩,hK _ _ ⟨by simp [AF],Nat.le_refl _,fun j hj=>hfrS _ j hj,fun e=>by cases e⟩⟩
  | false =>
   have hs63:Ir x=63:=by simp [Ir,hp1,ho]
   rw [hs63] at f1
   simp only [ho,Bool.false_eq_true,if_false] at hK
   by_cases c2:s.h=-1
   ·rw [if_neg (fun e=>e.1 c2)] at hK
    have d2:¬ (0≤s.h):=by omega
    simp [f_engramref9_state_ends,AO,go_sem,AB,AN,AM,AA,AE,AD,AC,AV.free.freeL,AV.free,AF,AH,hv.cell,AG,q1,q2,q3,q5,q6,q7,AJ,h3,f1,f2,h4,n1,hbS,Fe,IR,BI,Ap,AY,BL,d2]
    exact ⟨_,_,⟨rfl,rfl⟩,hK _ _ ⟨by simp [AF],Nat.le_refl _,fun j hj=>hfr2 _ _ j hj,fun _=>hgood _⟩⟩
   ·have d2:0≤s.h:=by omega
    by_cases c3:s.h=x.base
    ·rw [if_neg (fun e=>e.2 c3)] at hK
     have d3:=FU c3
     simp [f_engramref9_state_ends,AO,go_sem,AB,AN,AM,AA,AE,AD,AC,AV.free.freeL,AV.free,AF,AH,hv.cell,AG,q1,q2,q3,q5,q6,q7,AJ,h3,f1,f2,h4,n1,hbS,Fe,IR,BI,Ap,AY,BL,d2,d3]
     exact ⟨_,_,⟨rfl,rfl⟩,hK _ _ ⟨by simp [AF],Nat.le_refl _,fun j hj=>hfr2 _ _ j hj,fun _=>hgood _⟩⟩
    ·rw [if_pos ⟨c2,c3⟩] at hK
     have d3:=FP c3
     simp [f_engramref9_state_ends,AO,go_sem,AB,AN,AM,AA,AE,AD,AC,AV.free.freeL,AV.free,AF,AH,hv.cell,AG,q1,q2,q3,q5,q6,q7,AJ,h3,f1,f2,h4,n1,hbS,Fe,IR,BI,Ap,AY,BL,d2,d3]
     exact ⟨_,_,⟨rfl,rfl⟩,hK _ _ ⟨by simp [AF],Nat.le_refl _,fun j hj=>hfrS _ j hj,fun e=>by cases e⟩⟩
 ·
  obtain ⟨p,hp,hp1,hp2⟩:=hpre.2.2.1 rfl
  rw [h8] at hp;injection hp with hp;subst hp
  have hj:Al 93 s=if s.h≠-1∧s.h≠x.base then (14,s) else (0,⟨if x.left then x.base else -1,s.ps.dropLast⟩):=by
   simp [Al,h8]
  rw [hj] at hK
  have hbase:SVp (g.set S (.cells [.int .i64 s.h,.sl id 0 4 (s.ps.length - 1) false] 0)) b S Z ⟨s.h,s.ps.dropLast⟩ (.sl id 0 4 (s.ps.length - 1) false) :=
   { cell:=by rw [AU,if_pos rfl],bS:=hv.bS,Sn:=hv.Sn,os:=h9 _ (Nat.le_refl _) (AI h4),pS:=h4,zz:=hzz }
  have hs91:Ir x=91:=by simp [Ir,hp1]
  rw [hs91] at f1
  have hgood0:∀ y,SVp ((g.set S (.cells [.int .i64 s.h,.sl id 0 4 (s.ps.length - 1) false] 0)).set S (.cells [.int .i64 y,.sl id 0 4 (s.ps.length - 1) false] 0)) b S Z ⟨y,s.ps.dropLast⟩ (.sl id 0 4 (s.ps.length - 1) false):=fun y =>
   hbase.seth y
  have hfr2:∀ c d j,j<b∨Z j→((g.set S c).set S d).get j=g.get j:=fun c d j hj=>by rw [AI (hjS j hj),hfrS c j hj]
  have hfr3:∀ c d e j,j<b∨Z j→(((g.set S c).set S d).set S e).get j=g.get j:=fun c d e j hj=>by rw [AI (hjS j hj),hfr2 c d j hj]
  subst hpa
  by_cases hbad:s.h≠-1∧s.h≠x.base
  ·rw [if_pos hbad] at hK
   have d2:0≤s.h:=by have:=hbad.1;omega
   have d3:=FP hbad.2
   simp [f_engramref9_state_ends,AO,go_sem,AB,AN,AM,AA,AE,AD,AC,AV.free.freeL,AV.free,AF,AH,hv.cell,AG,q1,q2,q3,q5,q6,q7,AJ,h3,f1,f2,h4,n1,hbS,Fe,IR,BI,Ap,AY,BL,d2,d3]
   exact ⟨_,_,⟨rfl,rfl⟩,hK _ _ ⟨by simp [AF],Nat.le_refl _,fun j hj=>hfrS _ j hj,fun e=>by cases e⟩⟩
  ·rw [if_neg hbad] at hK
   by_cases c2:s.h=-1
   ·have d2:¬ (0≤s.h):=by omega
    cases hlf:x.left with
    | true =>
     simp only [hlf,if_true] at hK
     simp [f_engramref9_state_ends,AO,go_sem,AB,AN,AM,AA,AE,AD,AC,AV.free.freeL,AV.free,AF,AH,hv.cell,AG,q1,q2,q3,q5,q6,q7,AJ,h3,f1,f2,f4,h4,n1,hbS,Fe,IR,BI,Ap,AY,BL,d2,hlf]
     exact ⟨_,_,⟨rfl,rfl⟩,hK _ _ ⟨by simp [AF],Nat.le_refl _,fun j hj=>hfr2 _ _ j hj,fun _=>⟨_,hgood0 _⟩⟩⟩
    | false =>
     simp only [hlf,Bool.false_eq_true,if_false] at hK
     simp [f_engramref9_state_ends,AO,go_sem,AB,AN,AM,AA,AE,AD,AC,AV.free.freeL,AV.free,AF,AH,hv.cell,AG,q1,q2,q3,q5,q6,q7,AJ,h3,f1,f2,f4,h4,n1,hbS,Fe,IR,BI,Ap,AY,BL,d2,hlf]
     exact ⟨_,_,⟨rfl,rfl⟩,hK _ _ ⟨by simp [AF],Nat.le_refl _,fun j hj=>hfr3 _ _ _ j hj,fun _=>⟨_,(hgood0 _).seth (-1)⟩⟩⟩
   ·have d2:0≤s.h:=by omega
    have d3:=FU (show s.h=x.base from Classical.byContradiction fun e=>hbad ⟨c2,e⟩)
    cases hlf:x.left with
    | true =>
     simp only [hlf,if_true] at hK
     simp [f_engramref9_state_ends,AO,go_sem,AB,AN,AM,AA,AE,AD,AC,AV.free.freeL,AV.free,AF,AH,hv.cell,AG,q1,q2,q3,q5,q6,q7,AJ,h3,f1,f2,f4,h4,n1,hbS,Fe,IR,BI,Ap,AY,BL,d2,d3,hlf]
     exact ⟨_,_,⟨rfl,rfl⟩,hK _ _ ⟨by simp [AF],Nat.le_refl _,fun j hj=>hfr2 _ _ j hj,fun _=>⟨_,hgood0 _⟩⟩⟩
    | false =>
     simp only [hlf,Bool.false_eq_true,if_false] at hK
     simp [f_engramref9_state_ends,AO,go_sem,AB,AN,AM,AA,AE,AD,AC,AV.free.freeL,AV.free,AF,AH,hv.cell,AG,q1,q2,q3,q5,q6,q7,AJ,h3,f1,f2,f4,h4,n1,hbS,Fe,IR,BI,Ap,AY,BL,d2,d3,hlf]
     exact ⟨_,_,⟨rfl,rfl⟩,hK _ _ ⟨by simp [AF],Nat.le_refl _,fun j hj=>hfr3 _ _ _ j hj,fun _=>⟨_,(hgood0 _).seth (-1)⟩⟩⟩
end
end Go.Ev
namespace Go.Ev
open Go
section
variable {bar b:Nat} {g:H} {S:Nat} {Z:Nat→Prop} {s:Js} {pa:AV}
theorem UV (hbb:bar≤b) (hv:SVp g b S Z s pa) (hl:s.ps.length≤1000) (ho91:∀ p ∈ s.ps,p.loop=true∨Ir p≠91) (k0:Nat) (Q:Ex→Env→H→Prop) (hq:∀ e r g',e.get 2=some r→SR g b S Z (Al 126 s) r g'→Q .ret e g') (hk0:Bx s.ps s.ps.length=some k0):∀ (n:Nat),n≤s.ps.length→Bx s.ps n=some k0 →
  CW (call tb prim) bar [0,3] EW [(0,.ptr S 0),(3,.int .i64 ((n:Int) - 1))] g Q:=by
 intro n
 induction n with
 | zero=>intro _ h;simp [Bx] at h
 | succ k ih =>
  intro hn hll
  refine Ad EW.eq_1 ?_
  have hne:s.ps≠[]:=List.length_pos_iff.mp (by omega)
  obtain ⟨id,all,_,hpa,h1,h2,h3,h4,_,_,_,h9,h10,h11⟩:=hv.last hne
  have hk:k<s.ps.length:=by omega
  have hk':(k:Int)<(s.ps.length:Int):=by omega
  have hxk:s.ps[k]? = some s.ps[k]:=List.getElem?_eq_getElem hk
  obtain ⟨f0,f1,f2,f3,f4⟩:=h11 k _ hxk
  have hkk:((k+1:Nat):Int) - 1=(k:Int):=by omega
  rw [hkk]
  simp only [Bx,hxk] at hll
  have hrs:=ho91 _ (List.getElem_mem hk)
  have hw:IntKind.i64.wrap ((k:Int) - 1)=(k:Int) - 1:=BN (by omega) (by omega)
  have hpos:(0:Int)≤(k:Int):=by omega
  have hjS:∀ j,j<b∨Z j→j≠S:=fun j hj=>by
   rcases hj with hj | hj
   ·have:=hv.bS;omega
   ·exact (hv.zz j hj).2.1
  have hjI:∀ j,j<b∨Z j→j≠id:=fun j hj=>by
   rcases hj with hj | hj
   ·omega
   ·intro e;exact (hv.zz j hj).2.2 (by rw [hpa,e];rfl)
  generalize s.ps[k]=x at *
  cases hlp:x.loop with
  | false =>
   rw [hlp] at hll
   simp only [Bool.false_eq_true,if_false] at hll
   have hr91:(Ir x == 91)=false:=by rcases hrs with h | h<;>simp_all
   subst hpa
   simp [go_sem,hv.cell,AG,AJ,hk,hk',h3,f1,hr91,hw]
   exact ih (by omega) hll
  | true =>
   rw [hlp,if_pos rfl] at hll
   injection hll with hll
   subst hll
   have hr91:Ir x=91:=by simp [Ir,hlp]
   rw [hr91] at f1
   have hj:Al 126 s=if s.h≠x.base then (14,s) else (0,⟨-1,s.ps.set k ⟨x.loop,x.other,true,x.base,x.fin⟩⟩):=by
    simp only [Al,hk0,hxk]
    rfl
   have hbS:bar≤S:=by have:=hv.bS;omega
   have hbi:bar≤id:=by omega
   have hle:k*4+3+1≤all.length:=by omega
   have n1:S≠id:=fun e=>h4 e.symm
   have hsp:(AL all (k*4+3) [.bool true])[k*4+1]? = some (.int .i64 x.base):=by
    unfold AL
    rw [List.append_assoc,List.getElem?_append_left (by rw [List.length_take];omega),List.getElem?_take_of_lt (by omega)]
    exact f2
   have hos:=h10 k x ⟨x.loop,x.other,true,x.base,x.fin⟩ 3 [.bool true] ((g.set id (.cells (AL all (k*4+3) [.bool true]) 0)).set S (.cells [.int .i64 (-1),pa] 0)) hxk (by simp) rfl (Jp.rc_one _) (Nat.le_refl _) (by rw [AI h4,AU,if_pos rfl])
   have hSV:SV ((g.set id (.cells (AL all (k*4+3) [.bool true]) 0)).set S (.cells [.int .i64 (-1),pa] 0)) b S Z ⟨-1,s.ps.set k ⟨x.loop,x.other,true,x.base,x.fin⟩⟩:=⟨pa,{ cell:=by rw [AU,if_pos rfl],bS:=hv.bS,Sn:=hv.Sn,os:=hos,pS:=hv.pS,zz:=hv.zz }⟩
   have hfr:∀ j,j<b∨Z j→((g.set id (.cells (AL all (k*4+3) [.bool true]) 0)).set S (.cells [.int .i64 (-1),pa] 0)).get j=g.get j:=fun j hj=>by rw [AI (hjS j hj),AI (hjI j hj)]
   subst hpa
   simp [go_sem,AB,hv.cell,AG,AJ,hk,hk',h3,f1,hbi,hle,n1,hsp,hbS,Fe]
   refine hq _ (.bool (s.h == x.base)) _ rfl ?_
   rw [hj]
   by_cases c:s.h=x.base
   ·rw [if_neg (fun e=>e c)]
    exact ⟨by simp [c],Nat.le_refl _,hfr,fun _=>hSV⟩
   ·rw [if_pos c]
    exact ⟨by simp [c],Nat.le_refl _,hfr,fun e=>by cases e⟩
theorem XM (hbb:bar≤b) (hv:SV g b S Z s) (hl:s.ps.length≤1000) (hll:∃ k,Bx s.ps s.ps.length=some k):∃ r g',call tb prim CT [.ptr S 0] bar g=some (r,g')∧SR g b S Z (Al 126 s) r g':=by
 suffices hw:∃ r g',BK (call tb prim) f_engramref9_state_leave [.ptr S 0] bar g=some (r,g')∧SR g b S Z (Al 126 s) r g' by
  obtain ⟨r,h',h1,h2⟩:=hw;exact ⟨r,h',AQ JG h1,h2⟩
 refine Aj rfl rfl fun K hK=>?_
 obtain ⟨pa,hv⟩:=hv
 obtain ⟨k,hll⟩:=hll
 obtain ⟨hk,_⟩:=Gk _ _ _ hll
 have hw:IntKind.i64.wrap ((s.ps.length:Int) - 1)=(s.ps.length:Int) - 1:=BN (by omega) (by omega)
 simp [f_engramref9_state_leave,AO,go_sem,hv.cell,AG,hv.os.len,hw]
 refine UV hbb hv hl (fun p _=>?_) k _ (fun e r g' q1 q2=>?_) hll s.ps.length (Nat.le_refl _) hll
 ·cases h:p.loop with
  | true=>exact .inl rfl
  | false=>right;unfold Ir;rw [h];simp only [Bool.false_eq_true,if_false];split<;>omega
 ·simp [go_sem,AN,AM,AA,AE,AD,AC,AV.free.freeL,AV.free,AF,AH,q1]
  exact ⟨_,_,⟨rfl,rfl⟩,hK _ _ q2⟩
def eL (g:H) (b S:Nat) (Z:Nat→Prop) (x:Int × Js) (r:AV) (g':H):Prop:=r=.int .i64 x.1∧g.n≤g'.n∧(∀ j,j<b∨Z j→g'.get j=g.get j)∧(x.1=0→SV g' b S Z x.2)
set_option maxHeartbeats 2000000 in
theorem XU (fs:List Fn) (t:Tok) {fa:AV} {p m:Int} (h0:H) (hfv:FV h0 fa fs) (h0n:h0.n≤b) (hag:Ag h0.n h0 g) (hbb:bar≤b) (hb:b≤g.n) (hv:SV g b S Z s) (hok:Sa s) (hl:s.ps.length≤800) (hjb:s.h≠-1→Bw s.ps≤s.h) (hpre:Qo t.sign s.ps) :
  ∃ r g',call tb prim CU [.ptr S 0,.agg [.int .i64 p,.int .i64 m,fa],.agg t.cells] bar g=some (r,g')∧eL g b S Z (BC fs t s) r g':=by
 suffices hw:∃ r g',BK (call tb prim) f_engramref9_state_token [.ptr S 0,.agg [.int .i64 p,.int .i64 m,fa],.agg t.cells] bar g=some (r,g')∧eL g b S Z (BC fs t s) r g' by
  obtain ⟨r,h',h1,h2⟩:=hw;exact ⟨r,h',AQ JH h1,h2⟩
 refine Aj rfl rfl fun K hK=>?_
 obtain ⟨pa,hv⟩:=hv
 have hSn:=hv.Sn
 have hbS:bar≤S:=by have:=hv.bS;omega
 have n1:S≠g.n:=by omega
 have n2:S≠g.n+1:=by omega
 have hfone:=Vw.one hfv
 have htc:t.cells=[.int .i32 t.sign,.int .i64 t.n,.int .i32 t.name]:=rfl
 have hv1:SVp ((g.alloc (.cells [.int .i64 p,.int .i64 m,fa] 0)).alloc (.cells t.cells 0)) b S Z s pa:=hv.mono (by simp only [AP];omega) (fun j hj=>by rw [AK,AP,if_neg (by omega),AK,if_neg (by omega)])
 have hfr0:∀ j,j<b∨Z j→((g.alloc (.cells [.int .i64 p,.int .i64 m,fa] 0)).alloc (.cells t.cells 0)).get j=g.get j:=fun j hj=>by
  have hjn:j<g.n:=by
   rcases hj with hj | hj
   ·omega
   ·exact (hv.zz j hj).1
  rw [AK,AP,if_neg (by omega),AK,if_neg (by omega)]
 have hg1u:((g.alloc (.cells [.int .i64 p,.int .i64 m,fa] 0)).alloc (.cells t.cells 0)).get g.n=some (.cells [.int .i64 p,.int .i64 m,fa] 0):=by rw [AK,AP,if_neg (by omega),AK,if_pos rfl]
 have hg1t:((g.alloc (.cells [.int .i64 p,.int .i64 m,fa] 0)).alloc (.cells t.cells 0)).get (g.n+1)=some (.cells t.cells 0):=by rw [AK,AP,if_pos rfl]
 have hg1n:((g.alloc (.cells [.int .i64 p,.int .i64 m,fa] 0)).alloc (.cells t.cells 0)).n=g.n+2:=by simp [AP]
 have hfv2:FV ((g.alloc (.cells [.int .i64 p,.int .i64 m,fa] 0)).alloc (.cells t.cells 0)) fa fs:=hfv.mono ⟨by have:=hag.1;omega,fun j hj=>by rw [hfr0 j (.inl (by omega)),hag.2 j hj]⟩ (Nat.le_refl _)
 have htk:call tb prim DD [.agg [.int .i64 p,.int .i64 m,fa],.agg t.cells] bar ((g.alloc (.cells [.int .i64 p,.int .i64 m,fa] 0)).alloc (.cells t.cells 0))=_:=Mq fs fa t.sign t.n t.name p m hfv2
 have hbase:call tb prim CC [.ptr S 0] bar ((g.alloc (.cells [.int .i64 p,.int .i64 m,fa] 0)).alloc (.cells t.cells 0))=some (.int .i64 (Bw s.ps),_):=Yc hv1 (by omega)
 obtain ⟨b1,b2⟩:=KJ hok
 obtain ⟨b3,b4,b5,b6⟩:=Ih fs t.sign t.name
 have hok0:=hok
 obtain ⟨b7,b8,_,_⟩:=hok
 simp only [htc] at hg1t htk hv1 hfr0 hg1u hg1n hbase ⊢
 have hcell1:=hv1.cell
 
 have hE:Cf t.sign=(decide (t.sign=58)||(decide (t.sign=59)||decide (t.sign=93))):=by simp [Cf]
 generalize hg1:(g.alloc (.cells [.int .i64 p,.int .i64 m,fa] 0)).alloc (.cells [.int .i32 t.sign,.int .i64 t.n,.int .i32 t.name] 0)=g1 at *
 generalize htv:Am fs t.sign t.name=tv at *
 have hKc:∀ x,x≠0→(BC fs t s).1=x→∀ g',g.n≤g'.n→(∀ j,j<b∨Z j→g'.get j=g.get j)→K (.int .i64 x) g':=fun x hx0 hx g' q1 q2=>by
  refine hK _ _ ⟨by rw [hx],q1,q2,fun e=>absurd (hx.symm.trans e) hx0⟩
 by_cases hEn:Cf t.sign=true
 ·
  have hE':t.sign=58∨t.sign=59∨t.sign=93:=by simpa [Cf] using hEn
  have htv0:tv=(0,0,true):=by rw [← htv];exact Rl fs t.name hEn
  have hgo:BC fs t s=Al t.sign s:=by
   unfold BC;rw [htv,htv0,if_neg (by simp [hEn])]
   simp only [Bool.true_eq_false,if_false]
   by_cases a:s.h=-1
   ·rw [if_pos a]
   ·rw [if_neg a,if_neg (by have:=hjb a;omega)];simp
  rw [hgo] at hK hKc
  rw [htv0] at htk
  obtain ⟨r,g2,c1,c2,c3,c4,c5⟩:=Ye (b:=b) (bar:=bar) (g:=g1) (S:=S) (Z:=Z) (s:=s) t.sign hEn hbb (by omega) ⟨pa,hv1⟩ hok0 hpre
  subst c2
  have hn2:g.n≤g2.n:=by omega
  have hf2:∀ j,j<b∨Z j→g2.get j=g.get j:=fun j hj=>by rw [c4 j hj,hfr0 j hj]
  by_cases c0:(Al t.sign s).1=0
  ·have hfin:=hK (.int .i64 0) g2 ⟨by rw [c0],hn2,hf2,c5⟩
   rcases hE' with hE' | hE' | hE'
   all_goals
    simp only [hE'] at *
    by_cases dd:s.h<0<;>simp [f_engramref9_state_token,AO,go_sem,AB,AN,AM,AA,AE,AD,AC,AV.free.freeL,AV.free,AF,AH,hfone,hg1,hg1t,hg1u,hcell1,AG,htk,c1,dd,c0]
    all_goals exact ⟨_,_,⟨rfl,rfl⟩,hfin⟩
  ·have h14:(Al t.sign s).1=14:=by
    have:∀ sg j,(Al sg j).1=0∨(Al sg j).1=14:=fun sg j=>by
     unfold Al
     repeat' split
     all_goals simp
    rcases this t.sign s with h | h
    ·exact absurd h c0
    ·exact h
   have hfin:=hKc 14 (by omega) h14 g2 hn2 hf2
   have c0':decide ((Al t.sign s).1=0)=false:=by simpa using c0
   rw [c0'] at c1
   rcases hE' with hE' | hE' | hE'
   all_goals
    simp only [hE'] at *
    by_cases dd:s.h<0<;>simp [f_engramref9_state_token,AO,go_sem,AB,AN,AM,AA,AE,AD,AC,AV.free.freeL,AV.free,AF,AH,hfone,hg1,hg1t,hg1u,hcell1,AG,htk,c1,dd]
    all_goals exact ⟨_,_,⟨rfl,rfl⟩,hfin⟩
 ·have hE0:Cf t.sign=false:=by simpa using hEn
  have hE':¬ (t.sign=58∨t.sign=59∨t.sign=93):=by simpa [Cf] using hEn
  have f1:(t.sign == 58)=false:=by simp;omega
  have f2:(t.sign == 59)=false:=by simp;omega
  have f3:(t.sign == 93)=false:=by simp;omega
  by_cases a:s.h=-1
  ·have hj:(BC fs t s).1=15:=by unfold BC;rw [if_pos ⟨a,hE0⟩]
   have d1:s.h<0:=by omega
   simp [f_engramref9_state_token,AO,go_sem,AB,AN,AM,AA,AE,AD,AC,AV.free.freeL,AV.free,AF,AH,hfone,hg1,hg1t,hg1u,hcell1,AG,f1,f2,f3,d1]
   exact ⟨_,_,⟨rfl,rfl⟩,hKc 15 (by omega) hj _ (by omega) hfr0⟩
  ·have d1:¬ s.h<0:=by omega
   cases htv2:tv.2.2 with
   | false =>
    rw [htv2] at htk
    have hj:(BC fs t s).1=22:=by unfold BC;rw [htv,if_neg (fun e=>a e.1),if_pos htv2]
    simp [f_engramref9_state_token,AO,go_sem,AB,AN,AM,AA,AE,AD,AC,AV.free.freeL,AV.free,AF,AH,hfone,hg1,hg1t,hg1u,hcell1,AG,f1,f2,f3,d1,htk]
    exact ⟨_,_,⟨rfl,rfl⟩,hKc 22 (by omega) hj _ (by omega) hfr0⟩
   | true =>
    rw [htv2] at htk
    have w1:IntKind.i64.wrap (s.h - Bw s.ps)=s.h - Bw s.ps:=BN (by omega) (by omega)
    have w2:IntKind.i64.wrap (s.h - tv.1)=s.h - tv.1:=BN (by omega) (by omega)
    have w3:IntKind.i64.wrap (s.h - tv.1+tv.2.1)=s.h - tv.1+tv.2.1:=BN (by omega) (by omega)
    by_cases q1:s.h - Bw s.ps<tv.1
    ·have hj:(BC fs t s).1=14:=by unfold BC;rw [htv,if_neg (fun e=>a e.1),if_neg (by simp [htv2]),if_neg a,if_pos (.inl q1)]
     simp [f_engramref9_state_token,AO,go_sem,AB,AN,AM,AA,AE,AD,AC,AV.free.freeL,AV.free,AF,AH,hfone,hg1,hg1t,hg1u,hcell1,AG,f1,f2,f3,d1,htk,hbase,w1,q1]
     exact ⟨_,_,⟨rfl,rfl⟩,hKc 14 (by omega) hj _ (by omega) hfr0⟩
    ·by_cases q2:64<s.h - tv.1+tv.2.1
     ·have hj:(BC fs t s).1=14:=by unfold BC;rw [htv,if_neg (fun e=>a e.1),if_neg (by simp [htv2]),if_neg a,if_pos (.inr q2)]
      simp [f_engramref9_state_token,AO,go_sem,AB,AN,AM,AA,AE,AD,AC,AV.free.freeL,AV.free,AF,AH,hfone,hg1,hg1t,hg1u,hcell1,AG,f1,f2,f3,d1,htk,hbase,w1,q1,w2,w3,q2]
      exact ⟨_,_,⟨rfl,rfl⟩,hKc 14 (by omega) hj _ (by omega) hfr0⟩
     ·have hx:s.h+(tv.2.1 - tv.1)=s.h - tv.1+tv.2.1:=by omega
      have hgo:BC fs t s=Al t.sign ⟨s.h - tv.1+tv.2.1,s.ps⟩:=by
       unfold BC;rw [htv,if_neg (fun e=>a e.1),if_neg (by simp [htv2]),if_neg a,if_neg (by omega),hx]
      rw [hgo] at hK hKc
      have hv2:=hv1.seth (s.h - tv.1+tv.2.1)
      have hfr1:∀ j,j<b∨Z j→(g1.set S (.cells [.int .i64 (s.h - tv.1+tv.2.1),pa] 0)).get j=g.get j:=fun j hj=>by
       rw [AI ?_,hfr0 j hj]
       rcases hj with hj | hj
       ·have:=hv.bS;omega
       ·exact (hv.zz j hj).2.1
      have n3:g.n+1≠S:=by omega
      generalize hnh:s.h - tv.1+tv.2.1=nh at *
      have hg2t:(g1.set S (.cells [.int .i64 nh,pa] 0)).get (g.n+1)=g1.get (g.n+1):=AI n3
      have hcell2:=hv2.cell
      have hg2n:(g1.set S (.cells [.int .i64 nh,pa] 0)).n=g.n+2:=by simp only [AW];omega
      generalize hg2:g1.set S (.cells [.int .i64 nh,pa] 0)=g2 at *
      rw [hg1t] at hg2t
      simp only at hcell2
      by_cases s1:t.sign=63∨t.sign=91
      ·have hj:Al t.sign ⟨nh,s.ps⟩=(0,⟨nh,s.ps++[⟨t.sign == 91,false,false,nh,0⟩]⟩):=by simp only [Al];rw [if_pos s1]
       rw [hj] at hK
       obtain ⟨a',g',e1,e2,e3,e4,e5⟩:=hv2.os.app' (by omega) hbb 32 (Jp.rc ⟨t.sign == 91,false,false,nh,0⟩) rfl (Jp.rc_one _) (by omega) (by first | omega | (simp only;omega)) (by first | omega | (simp only;omega))
       have hrsg:Ir ⟨t.sign == 91,false,false,nh,0⟩=t.sign:=by
        rcases s1 with h | h<;>simp [Ir,h]
       simp only [Jp.rc,hrsg,hg2n] at e1 e3 e4 e5
       have hgS:g'.get S=some (.cells [.int .i64 nh,pa] 0):=by rw [e4 S (by omega) hv.pS];exact hcell2
       have m1:S≠g.n+2:=by omega
       have m2:g.n+1≠g.n+2:=by omega
       have haS:¬ a'.isAt S:=fun q=>by have:=e5 _ q;omega
       have hfin:=hK (.int .i64 0) (g'.set S (.cells [.int .i64 nh,a'] 0)) ⟨rfl,by simp only [AW];omega,fun j hj=>by
        have hjn:j<g.n∧j≠S∧¬ pa.isAt j:=by
         rcases hj with hj | hj
         ·exact ⟨by omega,by have:=hv.bS;omega,fun q=>by have:=hv.os.at_lt q;omega⟩
         ·exact hv.zz j hj
        rw [AI hjn.2.1,e4 j (by omega) hjn.2.2,hfr1 j hj],fun _=>⟨a',{
         cell:=by rw [AU,if_pos rfl]
         bS:=hv.bS
         Sn:=by simp only [AW];omega
         os:=by have:=e2.set (.cells [.int .i64 nh,a'] 0) haS;simpa [Jp.rc] using this
         pS:=haS
         zz:=fun j hj=>⟨by have:=(hv.zz j hj).1;simp only [AW];omega,(hv.zz j hj).2.1,fun q=>by have:=e5 _ q;have:=(hv.zz j hj).1;omega⟩ }⟩⟩
       rcases s1 with s1 | s1
       all_goals
        simp only [s1] at *
        simp [f_engramref9_state_token,AO,go_sem,AB,AN,AM,AA,AE,AD,AC,AV.free.freeL,AV.free,AF,AH,hfone,hg1,hg1t,hg1u,hcell1,AG,d1,htk,hbase,w1,q1,w2,w3,hnh,q2,hbS,Fe,hg2,hg2t]
        refine ⟨?_,?_⟩
        ·refine Ab rfl ?_
         simp [An,Ai,Aa,AS,AT,List.take,List.take_succ_cons,List.take_zero,go_sem,AB,hcell2,hg2t,AG,AX,Af,AL,hg2n,m1,m2]
        ·simp [go_sem,AB,AN,AM,AA,AE,AD,AC,AV.free.freeL,AV.free,AF,AH,hcell2,hg2t,AG,AX,Af,AL,hg2n,m1,m2,e1,hgS,hbS,e2.one]
         exact ⟨_,_,⟨rfl,rfl⟩,hfin⟩
      ·have g1':(t.sign == 63)=false:=by simp;omega
       have g2':(t.sign == 91)=false:=by simp;omega
       by_cases s2:t.sign=126
       ·obtain ⟨r,g3,c1,c2,c3,c4,c5⟩:=XM (b:=b) (bar:=bar) (g:=g2) (S:=S) (Z:=Z) (s:=⟨nh,s.ps⟩) hbb ⟨pa,hv2⟩ (by simp only;omega) (hpre.2.2.2 s2)
        have hn3:g.n≤g3.n:=by omega
        have hf3:∀ j,j<b∨Z j→g3.get j=g.get j:=fun j hj=>by rw [c4 j hj,hfr1 j hj]
        subst c2
        simp only [s2] at *
        by_cases c0:(Al 126 ⟨nh,s.ps⟩).1=0
        ·have hfin:=hK (.int .i64 0) g3 ⟨by rw [c0],hn3,hf3,c5⟩
         simp [f_engramref9_state_token,AO,go_sem,AB,AN,AM,AA,AE,AD,AC,AV.free.freeL,AV.free,AF,AH,hfone,hg1,hg1t,hg1u,hcell1,AG,d1,htk,hbase,w1,q1,w2,w3,hnh,q2,hbS,Fe,hg2,hg2t,c1,c0]
         exact ⟨_,_,⟨rfl,rfl⟩,hfin⟩
        ·have h14:(Al 126 ⟨nh,s.ps⟩).1=14:=by
          have:∀ sg j,(Al sg j).1=0∨(Al sg j).1=14:=fun sg j=>by
           unfold Al
           repeat' split
           all_goals simp
          rcases this 126 ⟨nh,s.ps⟩ with h | h
          ·exact absurd h c0
          ·exact h
         have hfin:=hKc 14 (by omega) h14 g3 hn3 hf3
         have c0':decide ((Al 126 ⟨nh,s.ps⟩).1=0)=false:=by simpa using c0
         rw [c0'] at c1
         simp [f_engramref9_state_token,AO,go_sem,AB,AN,AM,AA,AE,AD,AC,AV.free.freeL,AV.free,AF,AH,hfone,hg1,hg1t,hg1u,hcell1,AG,d1,htk,hbase,w1,q1,w2,w3,hnh,q2,hbS,Fe,hg2,hg2t,c1]
         exact ⟨_,_,⟨rfl,rfl⟩,hfin⟩
       ·have g3':(t.sign == 126)=false:=by simpa using s2
        by_cases s3:t.sign=161
        ·have hj:Al t.sign ⟨nh,s.ps⟩=(0,⟨-1,s.ps⟩):=by rw [s3];simp [Al]
         rw [hj] at hK
         have hv3:=hv2.seth (-1)
         have hfin:=hK (.int .i64 0) (g2.set S (.cells [.int .i64 (-1),pa] 0)) ⟨rfl,by simp only [AW];omega,fun j hj=>by
          rw [AI ?_,hfr1 j hj]
          rcases hj with hj | hj
          ·have:=hv.bS;omega
          ·exact (hv.zz j hj).2.1,fun _=>⟨pa,hv3⟩⟩
         simp only [s3] at *
         simp [f_engramref9_state_token,AO,go_sem,AB,AN,AM,AA,AE,AD,AC,AV.free.freeL,AV.free,AF,AH,hfone,hg1,hg1t,hg1u,hcell1,hcell2,AG,d1,htk,hbase,w1,q1,w2,w3,hnh,q2,hbS,Fe,hg2,hg2t]
         exact ⟨_,_,⟨rfl,rfl⟩,hfin⟩
        ·have g4':(t.sign == 161)=false:=by simpa using s3
         have hj:Al t.sign ⟨nh,s.ps⟩=(0,⟨nh,s.ps⟩):=by unfold Al;rw [if_neg s1,if_neg (by omega),if_neg (by omega),if_neg (by omega),if_neg s2,if_neg s3]
         rw [hj] at hK
         have hfin:=hK (.int .i64 0) g2 ⟨rfl,by omega,hfr1,fun _=>⟨pa,hv2⟩⟩
         simp [f_engramref9_state_token,AO,go_sem,AB,AN,AM,AA,AE,AD,AC,AV.free.freeL,AV.free,AF,AH,hfone,hg1,hg1t,hg1u,hcell1,AG,f1,f2,f3,d1,htk,hbase,w1,q1,w2,w3,hnh,q2,hbS,Fe,hg2,hg2t,g1',g2',g3',g4']
         exact ⟨_,_,⟨rfl,rfl⟩,hfin⟩
end
end Go.Ev
namespace Go.Ev
open Go
section
variable {bar b:Nat} {h:H} {S U:Nat} {p m:Int} {fa:AV}
set_option maxHeartbeats 1000000 in
theorem SH (fs:List Fn) (l:List Tok) (la:AV) (hla:FzV 3 la l.length (l.flatMap Tok.cells)) (hlen:l.length≤2000) (h0:H) (hfv:FV h0 fa fs) (h0n:h0.n≤b) (hbb:bar≤b) (hU:U<b) (Q:Ex→Env→H→Prop):∀ (k i:Nat) (g:H) (s:Js) (oa:AV) (out:List Int),l.length=i+k→b≤g.n→Ag h0.n h0 g→g.get U=some (.cells [.int .i64 p,.int .i64 m,fa] 0)→SV g b S oa.isAt s→OS 1 g b oa out.length (out.flatMap i64c)→OY fs (l.drop i) s→out.length≤i →
  (∀ e g' x,e.get 4=some .nilsl→e.get 5=some (.int .i64 x)→x≠0→(Cp fs (l.drop i) s out).1=x→Q .ret e g') →
  (∀ e g' s' oa' out' ,e.get 11=some (.ptr S 0)→e.get 12=some oa'→Cp fs (l.drop i) s out=(0,s',out')→SV g' b S oa'.isAt s'→OS 1 g' b oa' out'.length (out'.flatMap i64c)→out'.length≤2000→-1≤s'.h→Q (.exit 0) e g') →
  CW (call tb prim) bar [2,11,12,49,50,51] FE [(2,.ptr U 0),(11,.ptr S 0),(12,oa),(49,la),(50,As l.length),(51,As i)] g Q:=by
 intro k
 induction k with
 | zero =>
  intro i g s oa out hk hb hag hgU hv hos hg ho h1 h2
  refine Ad FE.eq_1 ?_
  rw [List.drop_eq_nil_of_le (by omega)] at hg
  simp [go_sem,hk]
  exact h2 _ _ s oa out rfl rfl (by rw [List.drop_eq_nil_of_le (by omega)];rfl) hv hos (by omega) hg.1
 | succ k ih =>
  intro i g s oa out hk hb hag hgU hv hos hg ho h1 h2
  refine Ad FE.eq_1 ?_
  have hi:i<l.length:=by omega
  have hbi:(i:Int)<(l.length:Int):=by omega
  have hw:=BF (n:=i) (by omega)
  rcases HZ hla with ⟨rfl,rfl⟩ | ⟨full,cs,rfl,hl,hx,hy⟩
  ·cases hi
  have hyi:=hy i hi
  have hd:l.drop i=l[i]::l.drop (i+1):=List.drop_eq_getElem_cons hi
  rw [hd] at hg h1 h2
  generalize hti:l[i]=t at *
  obtain ⟨hok,hpl,hjb,hpre,hnext⟩:=hg
  have hbn:bar≤g.n:=by omega
  obtain ⟨pa,hv⟩:=hv
  have hSn:=hv.Sn
  have hbS:=hv.bS
  
  have hA1:∀ j,j<g.n→((g.alloc (.cells [.int .i32 0,.int .i64 0,.int .i32 0] 0)).set g.n (.cells t.cells 0)).get j=g.get j:=fun j hj=>by rw [AI (by omega),AK,if_neg (by omega)]
  have hos1:OS 1 ((g.alloc (.cells [.int .i32 0,.int .i64 0,.int .i32 0] 0)).set g.n (.cells t.cells 0)) b oa out.length (out.flatMap i64c):=hos.mono (by simp [AW,AP]) (fun j hj=>hA1 j (hos.at_lt hj).2)
  obtain ⟨a',g',e1,e2,e3,e4,e5⟩:=hos1.app' (by simp only [AW,AP];omega) hbb 8 (i64c s.h) rfl rfl (by omega) (by omega) (by omega)
  simp only [AW,AP] at e1 e3 e4 e5
  simp only [i64c] at e1
  have hB:∀ j,j<g.n→¬ oa.isAt j→g'.get j=g.get j:=fun j hj q=>by rw [e4 j (by omega) q,hA1 j hj]
  have hpaO:∀ j,pa.isAt j→¬ oa.isAt j:=fun j q1 q2=>(hv.zz j q2).2.2 q1
  have hSO:¬ oa.isAt S:=fun q=>(hv.zz S q).2.1 rfl
  have hgS:g'.get S=some (.cells [.int .i64 s.h,pa] 0):=by rw [hB S hSn hSO];exact hv.cell
  have hgU':g'.get U=some (.cells [.int .i64 p,.int .i64 m,fa] 0):=by rw [hB U (by omega) (fun q=>by have:=hos.at_lt q;omega)];exact hgU
  have hgt:g'.get g.n=some (.cells t.cells 0):=by rw [e4 g.n (by omega) (fun q=>by have:=hos.at_lt q;omega),AU,if_pos rfl]
  have hv1:SVp g' b S a'.isAt s pa:={
   cell:=hgS
   bS:=hv.bS
   Sn:=by omega
   os:=hv.os.mono (by omega) (fun j q=>hB j (hv.os.at_lt q).2 (hpaO j q))
   pS:=hv.pS
   zz:=fun j q=>by
    have q1:=e5 j q
    have q2:=e2.at_lt q
    exact ⟨q2.2,by omega,fun q3=>by have:=hv.os.at_lt q3;omega⟩ }
  have hag1:Ag h0.n h0 g':=⟨by have:=hag.1;omega,fun j hj=>by rw [hB j (by omega) (fun q=>by have:=hos.at_lt q;omega),hag.2 j hj]⟩
  obtain ⟨r,g2,c1,c2,c3,c4,c5⟩:=XU (bar:=bar) (p:=p) (m:=m) fs t h0 hfv h0n hag1 hbb (by omega) ⟨pa,hv1⟩ hok hpl hjb hpre
  have hos2:OS 1 g2 b a' (out++[s.h]).length ((out++[s.h]).flatMap i64c):=by
   have:=e2.mono c3 (fun j q=>c4 j (.inr q))
   simpa [i64c] using this
  have hjl:Cp fs (t::l.drop (i+1)) s out=if (BC fs t s).1=0 then Cp fs (l.drop (i+1)) (BC fs t s).2 (out++[s.h]) else ((BC fs t s).1,s,out):=rfl
  rw [hjl] at h1 h2
  subst c2
  have n1:S≠g.n:=by omega
  have n2:S≠g.n+1:=by omega
  simp only [Tok.cells] at c1 e1 hgt
  by_cases c0:(BC fs t s).1=0
  ·rw [if_pos c0] at h1 h2
   have c0':((BC fs t s).1 != 0)=false:=FU c0
   simp [go_sem,AB,hi,hbi,AJ,hl,hyi,Tok.cells,AL,hbn,AG,hv.cell,n1,n2,AX,Af,e1,hgU',hgt,c1,c0',hw]
   exact ih (i+1) g2 _ a' _ (by omega) (by omega) ⟨by have:=hag1.1;omega,fun j hj=>by rw [c4 j (.inl (by omega)),hag1.2 j hj]⟩ (by rw [c4 U (.inl hU)];exact hgU') (c5 c0) hos2 (hnext c0) (by simp;omega) h1 h2
  ·rw [if_neg c0] at h1 h2
   have c0':((BC fs t s).1 != 0)=true:=FP c0
   simp [go_sem,AB,hi,hbi,AJ,hl,hyi,Tok.cells,AL,hbn,AG,hv.cell,n1,n2,AX,Af,e1,hgU',hgt,c1,c0']
   exact h1 _ _ _ rfl rfl c0 rfl
theorem UR (nst:List Tok→Bool) (fs:List Fn) (k:Int) (hv:FV h fa fs) (hnst:∀ l,nst l=(GJ l).isSome) (hgd:∀ l,nst l=true→OY fs l ⟨0,[]⟩):∃ a,call tb prim DV [.agg [.int .i64 p,.int .i64 m,fa],.int .i64 k] bar h=some (.tup [a,.int .i64 (Cl nst fs k).2],h)∧FzV 1 a (Cl nst fs k).1.length ((Cl nst fs k).1.flatMap i64c):=by
 suffices hw:∃ r,BK (call tb prim) f_engramref9_Func [.agg [.int .i64 p,.int .i64 m,fa],.int .i64 k] bar h=some (r,h)∧∃ a,r=.tup [a,.int .i64 (Cl nst fs k).2]∧FzV 1 a (Cl nst fs k).1.length ((Cl nst fs k).1.flatMap i64c) by
  obtain ⟨r,h1,a,rfl,h2⟩:=hw;exact ⟨a,AQ OO h1,h2⟩
 refine CG rfl rfl fun K hK=>?_
 have hnil:∀ x,Cl nst fs k=([],x)→K (.tup [.nilsl,.int .i64 x]):=fun x hx=>by
  refine hK _ ⟨.nilsl,by rw [hx],?_⟩
  rw [hx];exact ⟨rfl,by simp,.inl ⟨rfl,rfl⟩⟩
 have hlen:=hv.len
 by_cases c1:k<0
 ·have:=hnil 23 (by unfold Cl;rw [if_pos (.inl c1)])
  simp [f_engramref9_Func,AO,go_sem,AB,Bf,AA,AE,AD,AV.free.freeL,AF,Vw.one hv,c1,AC,AV.free]
  exact this
 by_cases c2:(fs.length:Int)≤k
 ·have:=hnil 23 (by unfold Cl;rw [if_pos (.inr c2)])
  simp [f_engramref9_Func,AO,go_sem,AB,Bf,AA,AE,AD,AV.free.freeL,AF,Vw.one hv,c1,hlen,c2,AC,AV.free]
  exact this
 obtain ⟨i,hik⟩:∃ i:Nat,k=i:=⟨k.toNat,by omega⟩
 subst hik
 have hi:i<fs.length:=by omega
 have hbi:(i:Int)<(fs.length:Int):=by omega
 have hf:Cl nst fs (i:Int)=if (BP fs[i].code).2≠0 then ([],(BP fs[i].code).2) else Eh fs (BP fs[i].code).1 (nst (BP fs[i].code).1):=by
  unfold Cl;rw [if_neg (by omega)];simp [hi]
 rw [hf] at hK hnil
 have hone:=Vw.one hv
 have hag:∀ o,Ag h.n h (h.alloc o):=fun o=>Ag.alloc _ (Nat.le_refl _)
 obtain ⟨la,ht,hla,hll⟩:=Lq (pr:=prim) (bar:=h.n) (h:=h.alloc (.cells [.int .i64 p,.int .i64 m,fa] 0)) fs[i].code
 have hpos:¬ ((i:Int)<0):=by omega
 have c2':¬ ((fs.length:Int)≤(i:Int)):=c2
 have c2n:¬ fs.length≤i:=by omega
 simp [f_engramref9_Func,AO,go_sem,AB,hone,hpos,hlen,c2',c2n]
 refine UZ (f:=2) hv (hag _) hi rfl (fun v1 v2=>?_)
 by_cases d1:(BP fs[i].code).2=0
 ·have d1':((BP fs[i].code).2 != 0)=false:=FU d1
  rw [if_neg (by simp [d1])] at hK hnil
  simp [go_sem,AB,ht,d1']
  have hof:=Nc (pr:=prim) (bar:=h.n) (h:=h.alloc (.cells [.int .i64 p,.int .i64 m,fa] 0)) (BP fs[i].code).1 la hla (by omega)
  have hlla:=(hla.vw h).len
  generalize (BP fs[i].code).1=ts at *
  have hns:=hnst ts
  cases hne:GJ ts with
  | none =>
   rw [hne] at hof hns
   rw [hns] at hnil
   simp [go_sem,AB,Bf,AA,AE,AD,AV.free.freeL,AF,hof,AC,AV.free]
   exact hnil 13 rfl
  | some to =>
   obtain ⟨to,deep⟩:=to
   rw [hne] at hof hns
   rw [hns] at hnil hK
   obtain ⟨ta,hof,_,_⟩:=hof
   have hgood:=hgd ts hns
   have hag1:Ag h.n h ((h.alloc (.cells [.int .i64 p,.int .i64 m,fa] 0)).alloc (.cells [.int .i64 0,.nilsl] 0)):=(hag _).trans (Ag.alloc _ (by simp [AP]))
   have hSV:SV ((h.alloc (.cells [.int .i64 p,.int .i64 m,fa] 0)).alloc (.cells [.int .i64 0,.nilsl] 0)) (h.n+1) (h.n+1) AV.nilsl.isAt ⟨0,[]⟩:=⟨.nilsl,{
    cell:=by simp [AK,AP]
    bS:=Nat.le_refl _
    Sn:=by simp only [AP];omega
    os:=OS.nil
    pS:=fun q=>q
    zz:=fun j q=>q.elim }⟩
   simp [go_sem,AB,hof,AX,Af,AL,hlla]
   refine SH (b:=h.n+1) (S:=h.n+1) (U:=h.n) (p:=p) (m:=m) fs ts la hla (by omega) h hv (by omega) (by omega) (by omega) _ ts.length 0 _ ⟨0,[]⟩ .nilsl [] (by omega) (by simp only [AP];omega) hag1 (by simp [AK,AP]) hSV OS.nil (by simpa using hgood) (by simp) (fun e g' x q1 q2 q3 q4=>?_) (fun e g' s' oa' out' q1 q2 q3 q4 q5 q6 q7=>?_)
   ·rw [List.drop_zero] at q4
    have:=hnil x (by simp only [Eh,Option.isSome_some,Bool.true_eq_false,if_false];rw [q4,if_pos q3])
    simp [go_sem,Bf,AA,AE,AD,AV.free.freeL,AF,q1,q2,AC,AV.free]
    exact this
   ·rw [List.drop_zero] at q3
    obtain ⟨pa,hv'⟩:=q4
    have q5':OS 1 g' h.n oa' out'.length (out'.flatMap i64c):=by
     obtain ⟨z1,z2,z3 | ⟨id,rest,y1,y2,y3,y4⟩⟩:=q5
     ·exact ⟨z1,z2,.inl z3⟩
     ·exact ⟨z1,z2,.inr ⟨id,rest,y1,by omega,y3,y4⟩⟩
    obtain ⟨a2,f1,f2,f3⟩:=q5'.freeze (HW _) (by omega) 2
    by_cases e2:s'.h=1
    ·have e2':=FU e2
     simp [go_sem,Bf,AA,AE,AD,AV.free.freeL,AF,q1,q2,AG,hv'.cell,e2',f2,f3.free,AC,AV.free]
     refine hK _ ⟨a2,?_,?_⟩
     ·simp [Eh,q3,e2,AF]
     ·simp [Eh,q3,e2];exact f3
    ·have e2':=FP e2
     by_cases e1:s'.h=-1
     ·have d3:¬ (0≤s'.h):=by omega
      simp [go_sem,Bf,AA,AE,AD,AV.free.freeL,AF,q1,q2,AG,hv'.cell,e2',d3,f2,f3.free,AC,AV.free]
      refine hK _ ⟨a2,?_,?_⟩
      ·simp [Eh,q3,e1,AF]
      ·simp [Eh,q3,e1];exact f3
     ·have d3:0≤s'.h:=by omega
      have:=hnil 14 (by simp only [Eh,Option.isSome_some,Bool.true_eq_false,if_false];rw [q3];simp [e1,e2])
      simp [go_sem,Bf,AA,AE,AD,AV.free.freeL,AF,q1,q2,AG,hv'.cell,e2',d3,AC,AV.free]
      exact this
 ·have d1':((BP fs[i].code).2 != 0)=true:=FP d1
  rw [if_pos d1] at hnil
  simp [go_sem,AB,Bf,AA,AE,AD,AV.free.freeL,AF,ht,d1',AC,AV.free]
  exact hnil _ rfl
end
end Go.Ev
namespace Go.Ev
open Go
structure ROk (l:List Tok) (i:Nat) (r:NS):Prop where
 lt:∀ q ∈ r.op,q<i
 sg:∀ q ∈ r.op,Ah l q=63∨Ah l q=91∨Ah l q=58
 tl:r.to.length=l.length
theorem Ps {A:Type} {l:List A} {x:A} (h:l.getLast? = some x):l=l.dropLast++[x]:=by
 have hne:l≠[]:=fun e=>by rw [e] at h;cases h
 obtain ⟨y,hy1,hy2,_,_⟩:=EB hne
 rw [h] at hy1;injection hy1 with hy1;subst hy1
 exact hy2
theorem Nq {A:Type} {l:List A} {x y:A} (h:l.getLast? = some x) (hy:y ∈ l):y ∈ l.dropLast∨y=x:=by
 rw [Ps h,List.mem_append] at hy
 rcases hy with hy | hy
 ·exact .inl hy
 ·simp at hy;exact .inr hy
theorem Ec {l:List Tok} {i:Nat} {r r1:NS} (h:Cr l i r=some r1) :
  ((Ah l i=63∨Ah l i=91)∧r.op.length+1≤16∧r1.op=r.op++[i]∧r1.to=r.to.set i (-1)) ∨
  (Ah l i=58∧∃ p,r.op.getLast? = some p∧Ah l p=63∧r1.op=r.op.dropLast++[i]∧r1.to=(r.to.set i (-1)).set p ((i+1:Nat):Int)) ∨
  (Ah l i=59∧∃ p,r.op.getLast? = some p∧Ah l p≠91∧r1.op=r.op.dropLast∧r1.to=(r.to.set i (-1)).set p (i:Int)) ∨
  (Ah l i=93∧∃ p,r.op.getLast? = some p∧Ah l p=91∧r1.op=r.op.dropLast∧r1.to=(r.to.set i (-1)).set i (p:Int)) ∨
  (¬ (Ah l i=63∨Ah l i=91∨Ah l i=58∨Ah l i=59∨Ah l i=93)∧r1.op=r.op∧r1.to=r.to.set i (-1)):=by
 unfold Cr at h
 split at h
 ·rename_i c
  split at h
  ·cases h
  ·injection h with h;subst h;exact .inl ⟨c,by omega,rfl,rfl⟩
 ·rename_i c
  split at h
  ·rename_i c2
   split at h
   ·cases h
   ·rename_i p hp
    split at h
    ·rename_i c3;injection h with h;subst h;exact .inr (.inl ⟨c2,p,hp,c3,rfl,rfl⟩)
    ·cases h
  ·rename_i c2
   split at h
   ·rename_i c3
    split at h
    ·cases h
    ·rename_i p hp
     split at h
     ·cases h
     ·rename_i c4;injection h with h;subst h;exact .inr (.inr (.inl ⟨c3,p,hp,c4,rfl,rfl⟩))
   ·rename_i c3
    split at h
    ·rename_i c4
     split at h
     ·cases h
     ·rename_i p hp
      split at h
      ·rename_i c5;injection h with h;subst h;exact .inr (.inr (.inr (.inl ⟨c4,p,hp,c5,rfl,rfl⟩)))
      ·cases h
    ·rename_i c4
     injection h with h;subst h
     exact .inr (.inr (.inr (.inr ⟨by omega,rfl,rfl⟩)))
theorem ROk.step {l:List Tok} {i:Nat} {r r1:NS} (hr:ROk l i r) (h:Cr l i r=some r1):ROk l (i+1) r1:=by
 have hlt:∀ q ∈ r.op,q<i+1:=fun q hq=>by have:=hr.lt q hq;omega
 rcases Ec h with ⟨c,_,e1,e2⟩ | ⟨c,p,hp,c2,e1,e2⟩ | ⟨c,p,hp,c2,e1,e2⟩ | ⟨c,p,hp,c2,e1,e2⟩ | ⟨c,e1,e2⟩
 ·refine ⟨fun q hq=>?_,fun q hq=>?_,by rw [e2,List.length_set];exact hr.tl⟩
  ·rw [e1,List.mem_append] at hq
   rcases hq with hq | hq
   ·exact hlt q hq
   ·simp at hq;omega
  ·rw [e1,List.mem_append] at hq
   rcases hq with hq | hq
   ·exact hr.sg q hq
   ·simp at hq;subst hq;rcases c with c | c
    ·exact .inl c
    ·exact .inr (.inl c)
 ·refine ⟨fun q hq=>?_,fun q hq=>?_,by rw [e2,List.length_set,List.length_set];exact hr.tl⟩
  ·rw [e1,List.mem_append] at hq
   rcases hq with hq | hq
   ·exact hlt q (CR hq)
   ·simp at hq;omega
  ·rw [e1,List.mem_append] at hq
   rcases hq with hq | hq
   ·exact hr.sg q (CR hq)
   ·simp at hq;subst hq;exact .inr (.inr c)
 ·exact ⟨fun q hq=>hlt q (CR (e1 ▸ hq)),fun q hq=>hr.sg q (CR (e1 ▸ hq)),by rw [e2,List.length_set,List.length_set];exact hr.tl⟩
 ·exact ⟨fun q hq=>hlt q (CR (e1 ▸ hq)),fun q hq=>hr.sg q (CR (e1 ▸ hq)),by rw [e2,List.length_set,List.length_set];exact hr.tl⟩
 ·exact ⟨fun q hq=>hlt q (e1 ▸ hq),fun q hq=>hr.sg q (e1 ▸ hq),by rw [e2,List.length_set];exact hr.tl⟩
theorem Qp (l:List Tok) (j:Nat) (hj:Ah l j=93):∀ (k i:Nat) (r r':NS),Bi l k i r=some r'→ROk l i r→j<i→r'.to[j]? = r.to[j]?:=by
 intro k
 induction k with
 | zero=>intro i r r' h _ _;injection h with h;rw [h]
 | succ k ih =>
  intro i r r' h hr hji
  simp only [Bi] at h
  cases hs:Cr l i r with
  | none=>rw [hs] at h;cases h
  | some r1 =>
   rw [hs] at h
   rw [ih (i+1) r1 r' h (hr.step hs) (by omega)]
   have hne:i≠j:=by omega
   have hp93:∀ p,r.op.getLast? = some p→p≠j:=fun p hp e=>by
    have:=hr.sg p (List.mem_of_getLast? hp);rw [e] at this;omega
   rcases Ec hs with ⟨c,_,e1,e2⟩ | ⟨c,p,hp,c2,e1,e2⟩ | ⟨c,p,hp,c2,e1,e2⟩ | ⟨c,p,hp,c2,e1,e2⟩ | ⟨c,e1,e2⟩
   ·rw [e2,List.getElem?_set_ne hne]
   ·rw [e2,List.getElem?_set_ne (hp93 p hp),List.getElem?_set_ne hne]
   ·rw [e2,List.getElem?_set_ne (hp93 p hp),List.getElem?_set_ne hne]
   ·rw [e2,List.getElem?_set_ne hne,List.getElem?_set_ne hne]
   ·rw [e2,List.getElem?_set_ne hne]
theorem eh (l:List Tok) (q:Nat) (hq:Ah l q=91):∀ (k i:Nat) (r r':NS),l.length=i+k→Bi l k i r=some r'→r'.op=[]→ROk l i r→q ∈ r.op→∃ m,i≤m∧m<l.length∧Ah l m=93∧r'.to[m]? = some (q:Int):=by
 intro k
 induction k with
 | zero=>intro i r r' _ h he _ hm;injection h with h;rw [← h] at he;rw [he] at hm;cases hm
 | succ k ih =>
  intro i r r' hl h he hr hm
  simp only [Bi] at h
  cases hs:Cr l i r with
  | none=>rw [hs] at h;cases h
  | some r1 =>
   rw [hs] at h
   have hr1:=hr.step hs
   have hgo:q ∈ r1.op→∃ m,i≤m∧m<l.length∧Ah l m=93∧r'.to[m]? = some (q:Int):=fun h1=>by
    obtain ⟨m,a1,a2,a3,a4⟩:=ih (i+1) r1 r' (by omega) h he hr1 h1
    exact ⟨m,by omega,a2,a3,a4⟩
   rcases Ec hs with ⟨c,_,e1,e2⟩ | ⟨c,p,hp,c2,e1,e2⟩ | ⟨c,p,hp,c2,e1,e2⟩ | ⟨c,p,hp,c2,e1,e2⟩ | ⟨c,e1,e2⟩
   ·exact hgo (by rw [e1];exact List.mem_append_left _ hm)
   ·rcases Nq hp hm with h1 | h1
    ·exact hgo (by rw [e1];exact List.mem_append_left _ h1)
    ·subst h1;omega
   ·rcases Nq hp hm with h1 | h1
    ·exact hgo (by rw [e1];exact h1)
    ·subst h1;exact absurd hq c2
   ·rcases Nq hp hm with h1 | h1
    ·exact hgo (by rw [e1];exact h1)
    ·subst h1
     refine ⟨i,Nat.le_refl _,by omega,c,?_⟩
     rw [Qp l i c k (i+1) r1 r' h hr1 (by omega),e2,List.getElem?_set_self (by rw [List.length_set,hr.tl];omega)]
   ·exact hgo (by rw [e1];exact hm)
theorem dR (l:List Tok):∀ (k i:Nat) (r r':NS) (m q:Nat),l.length=i+k→Bi l k i r=some r'→ROk l i r→i≤m→m<l.length→Ah l m=93→r'.to[m]? = some (q:Int)→q<i→q ∈ r.op∧Ah l q=91:=by
 intro k
 induction k with
 | zero=>intro i r r' m q hl _ _ h1 h2;omega
 | succ k ih =>
  intro i r r' m q hl h hr h1 h2 h3 h4 h5
  simp only [Bi] at h
  cases hs:Cr l i r with
  | none=>rw [hs] at h;cases h
  | some r1 =>
   rw [hs] at h
   have hr1:=hr.step hs
   by_cases hm:m=i
   ·subst hm
    rw [Qp l m h3 k (m+1) r1 r' h hr1 (by omega)] at h4
    rcases Ec hs with ⟨c,_,e1,e2⟩ | ⟨c,p,hp,c2,e1,e2⟩ | ⟨c,p,hp,c2,e1,e2⟩ | ⟨c,p,hp,c2,e1,e2⟩ | ⟨c,e1,e2⟩
    ·omega
    ·omega
    ·omega
    ·rw [e2,List.getElem?_set_self (by rw [List.length_set,hr.tl];omega)] at h4
     injection h4 with h4
     have:p=q:=by omega
     subst this
     exact ⟨List.mem_of_getLast? hp,c2⟩
    ·omega
   ·obtain ⟨g1,g2⟩:=ih (i+1) r1 r' m q (by omega) h hr1 (by omega) h2 h3 h4 (by omega)
    refine ⟨?_,g2⟩
    rcases Ec hs with ⟨c,_,e1,e2⟩ | ⟨c,p,hp,c2,e1,e2⟩ | ⟨c,p,hp,c2,e1,e2⟩ | ⟨c,p,hp,c2,e1,e2⟩ | ⟨c,e1,e2⟩
    ·rw [e1,List.mem_append] at g1
     rcases g1 with g1 | g1
     ·exact g1
     ·simp at g1;omega
    ·rw [e1,List.mem_append] at g1
     rcases g1 with g1 | g1
     ·exact CR g1
     ·simp at g1;omega
    ·exact CR (e1 ▸ g1)
    ·exact CR (e1 ▸ g1)
    ·exact e1 ▸ g1
theorem Pu (l:List Tok) (to:List Int) (at':Nat):∀ (k i:Nat),0≤CH l to at' k i↔∃ m,i≤m∧m<i+k∧Ah l m=93∧to.getD m 0<at':=by
 intro k
 induction k with
 | zero=>intro i;simp only [CH];exact ⟨fun h=>by omega,fun ⟨m,h1,h2,_⟩=>by omega⟩
 | succ k ih =>
  intro i
  simp only [CH]
  split
  ·rename_i c
   exact ⟨fun _=>⟨i,Nat.le_refl _,by omega,c⟩,fun _=>by omega⟩
  ·rename_i c
   rw [ih (i+1)]
   exact ⟨fun ⟨m,h1,h2,h3⟩=>⟨m,by omega,by omega,h3⟩,fun ⟨m,h1,h2,h3⟩=>⟨m,by
    have:m≠i:=fun e=>c (by rw [← e];exact h3)
    omega,by omega,h3⟩⟩
theorem Pv (l:List Tok) (to:List Int) (j:Nat) (v:Int) (hj:Ah l j≠93) (at':Nat):∀ (k i:Nat),CH l (to.set j v) at' k i=CH l to at' k i:=by
 intro k
 induction k with
 | zero=>intro i;rfl
 | succ k ih =>
  intro i
  simp only [CH]
  rw [ih (i+1)]
  by_cases c:Ah l i=93
  ·have hne:j≠i:=fun e=>hj (by rw [e];exact c)
   have:(to.set j v).getD i 0=to.getD i 0:=by rw [List.getD_eq_getElem?_getD,List.getD_eq_getElem?_getD,List.getElem?_set_ne hne]
   rw [this]
  ·simp [c]
theorem Vj (l:List Tok):∀ (k i:Nat) (to:List Int),(Fd l k i to).isSome=true↔∀ j,i≤j→j<i+k→Ah l j=126→0≤CH l to j (l.length - j) j:=by
 intro k
 induction k with
 | zero=>intro i to;simp only [Fd,Option.isSome_some,true_iff];intro j h1 h2;omega
 | succ k ih =>
  intro i to
  simp only [Fd]
  by_cases c:Ah l i=126
  ·rw [if_pos c]
   by_cases d:CH l to i (l.length - i) i<0
   ·rw [if_pos d]
    simp only [Option.isSome_none,Bool.false_eq_true,false_iff]
    intro h
    have:=h i (Nat.le_refl _) (by omega) c
    omega
   ·rw [if_neg d,ih (i+1)]
    refine ⟨fun h j h1 h2 h3=>?_,fun h j h1 h2 h3=>?_⟩
    ·by_cases hj:j=i
     ·subst hj;omega
     ·have:=h j (by omega) (by omega) h3
      rwa [Pv l to i _ (by omega)] at this
    ·rw [Pv l to i _ (by omega)]
     exact h j (by omega) (by omega) h3
  ·rw [if_neg c,ih (i+1)]
   refine ⟨fun h j h1 h2 h3=>?_,fun h j h1 h2 h3=>h j (by omega) (by omega) h3⟩
   by_cases hj:j=i
   ·subst hj;exact absurd h3 c
   ·exact h j (by omega) (by omega) h3
structure PR (l:List Tok) (i:Nat) (s:Mt) (r:NS):Prop where
 fl:s.op.map (fun p=>(p.loop,decide (0<p.ot)))=r.op.map fun q=>(decide (Ah l q=91),decide (Ah l q=58))
 ok:ROk l i r
theorem PR.len {l:List Tok} {i:Nat} {s:Mt} {r:NS} (h:PR l i s r):s.op.length=r.op.length:=by
 have:=congrArg List.length h.fl
 simpa using this
theorem PR.last {l:List Tok} {i:Nat} {s:Mt} {r:NS} (h:PR l i s r):(s.op.getLast? = none∧r.op.getLast? = none)∨∃ p q,s.op.getLast? = some p∧r.op.getLast? = some q∧p.loop=decide (Ah l q=91)∧decide (0<p.ot)=decide (Ah l q=58)∧q<i∧(Ah l q=63∨Ah l q=91∨Ah l q=58):=by
 have hn:=congrArg List.getLast? h.fl
 rw [List.getLast?_map,List.getLast?_map] at hn
 cases hp:s.op.getLast? with
 | none =>
  rw [hp] at hn
  cases hq:r.op.getLast? with
  | none=>exact .inl ⟨rfl,rfl⟩
  | some q=>rw [hq] at hn;simp at hn
 | some p =>
  rw [hp] at hn
  cases hq:r.op.getLast? with
  | none=>rw [hq] at hn;simp at hn
  | some q =>
   rw [hq] at hn
   simp only [Option.map_some,Option.some.injEq,Prod.mk.injEq] at hn
   have hm:=List.mem_of_getLast? hq
   exact .inr ⟨p,q,rfl,rfl,hn.1,hn.2,h.ok.lt q hm,h.ok.sg q hm⟩
theorem TN {l:List Tok} {s:Mt} {r:NS} (h:s.op.map (fun p=>(p.loop,decide (0<p.ot)))=r.op.map fun q=>(decide (Ah l q=91),decide (Ah l q=58))):(∃ k,Bl s.op s.op.length=some k)↔∃ q ∈ r.op,Ah l q=91:=by
 have hlen:s.op.length=r.op.length:=by simpa using congrArg List.length h
 have hget:∀ k:Nat,(s.op[k]?).map (fun p=>p.loop)=(r.op[k]?).map fun q=>decide (Ah l q=91):=fun k=>by
  have:=congrArg (fun l=>(l[k]?).map Prod.fst) h
  simpa [List.getElem?_map,Option.map_map,Function.comp_def] using this
 constructor
 ·rintro ⟨k,hk⟩
  obtain ⟨h1,p,h2,h3⟩:=EM _ _ _ hk
  have:=hget k
  rw [h2] at this
  cases hq:r.op[k]? with
  | none=>rw [hq] at this;simp at this
  | some q =>
   rw [hq] at this
   simp only [Option.map_some,Option.some.injEq] at this
   exact ⟨q,List.mem_of_getElem? hq,by rw [h3] at this;simpa using this.symm⟩
 ·rintro ⟨q,hq,hs⟩
  obtain ⟨k,hk⟩:=List.mem_iff_getElem?.mp hq
  have hkl:k<s.op.length:=by
   obtain ⟨h1,_⟩:=List.getElem?_eq_some_iff.mp hk;omega
  have hgen:∀ n,k<n→n≤s.op.length→∃ k',Bl s.op n=some k':=by
   intro n
   induction n with
   | zero=>intro h;omega
   | succ n ih =>
    intro h1 h2
    simp only [Bl]
    have hn:n<s.op.length:=by omega
    rw [List.getElem?_eq_getElem hn]
    simp only
    split
    ·exact ⟨n,rfl⟩
    ·rename_i hl
     by_cases hkn:k=n
     ·subst hkn
      have:=hget k
      rw [hk,List.getElem?_eq_getElem hn] at this
      simp only [Option.map_some,Option.some.injEq] at this
      exact absurd (by rw [this];simp [hs]) hl
     ·exact ih (by omega) (by omega)
  exact hgen _ hkl (Nat.le_refl _)
theorem PR.fwd {l:List Tok} {i:Nat} {s s1:Mt} {r:NS} (h:PR l i s r) (hs:BX (Ah l i) i s=some s1):∃ r1,Cr l i r=some r1∧PR l (i+1) s1 r1∧(Ah l i=126→∃ q ∈ r.op,Ah l q=91):=by
 suffices hw:∃ r1,Cr l i r=some r1∧s1.op.map (fun p=>(p.loop,decide (0<p.ot)))=r1.op.map (fun q=>(decide (Ah l q=91),decide (Ah l q=58)))∧(Ah l i=126→∃ q ∈ r.op,Ah l q=91) by
  obtain ⟨r1,h1,h2,h3⟩:=hw;exact ⟨r1,h1,⟨h2,h.ok.step h1⟩,h3⟩
 have hlen:=h.len
 unfold BX at hs
 unfold Cr
 by_cases c1:Ah l i=63
 ·rw [if_pos c1] at hs
  split at hs
  ·injection hs with hs;subst hs
   exact ⟨_,by rw [if_pos (.inl c1),if_neg (by omega)],by simp [h.fl,c1],fun e=>by omega⟩
  ·cases hs
 rw [if_neg c1] at hs
 by_cases c2:Ah l i=91
 ·rw [if_pos c2] at hs
  split at hs
  ·injection hs with hs;subst hs
   exact ⟨_,by rw [if_pos (.inr c2),if_neg (by omega)],by simp [h.fl,c2],fun e=>by omega⟩
  ·cases hs
 rw [if_neg c2] at hs
 rw [if_neg (by omega)]
 by_cases c3:Ah l i=58
 ·rw [if_pos c3] at hs ⊢
  rcases h.last with ⟨e1,e2⟩ | ⟨p,q,e1,e2,e3,e4,e5,e6⟩
  ·rw [e1] at hs;cases hs
  ·rw [e1] at hs
   rw [e2]
   simp only at hs ⊢
   split at hs
   ·cases hs
   ·rename_i hc
    simp at hc
    injection hs with hs;subst hs
    have hq91:Ah l q≠91:=by rw [hc.1] at e3;simpa using e3.symm
    have hq58:Ah l q≠58:=by
     have:decide (0<p.ot)=false:=by simp;omega
     rw [this] at e4;simpa using e4.symm
    have hq63:Ah l q=63:=by omega
    refine ⟨_,by rw [if_pos hq63],?_,fun e=>by omega⟩
    have hsp:=Ps e1
    have hset:s.op.set (s.op.length - 1) ⟨p.loop,p.fr,i,p.leaves⟩=s.op.dropLast++[⟨p.loop,p.fr,i,p.leaves⟩]:=by
     conv=>lhs;rw [hsp]
     rw [List.set_append_right _ _ (by simp)]
     simp
    simp only [hset,List.map_append,List.map_dropLast,h.fl]
    simp [hc.1,c3];omega
 rw [if_neg c3] at hs ⊢
 by_cases c4:Ah l i=59
 ·rw [if_pos c4] at hs ⊢
  rcases h.last with ⟨e1,e2⟩ | ⟨p,q,e1,e2,e3,e4,e5,e6⟩
  ·rw [e1] at hs;cases hs
  ·rw [e1] at hs
   rw [e2]
   simp only at hs ⊢
   split at hs
   ·cases hs
   ·rename_i hc
    simp at hc
    injection hs with hs;subst hs
    have hq91:Ah l q≠91:=by rw [hc] at e3;simpa using e3.symm
    exact ⟨_,by rw [if_neg hq91],by simp only [List.map_dropLast,h.fl],fun e=>by omega⟩
 rw [if_neg c4] at hs ⊢
 by_cases c5:Ah l i=93
 ·rw [if_pos c5] at hs ⊢
  rcases h.last with ⟨e1,e2⟩ | ⟨p,q,e1,e2,e3,e4,e5,e6⟩
  ·rw [e1] at hs;cases hs
  ·rw [e1] at hs
   rw [e2]
   simp only at hs ⊢
   split at hs
   ·rename_i hc
    injection hs with hs;subst hs
    have hq91:Ah l q=91:=by rw [hc] at e3;simpa using e3.symm
    exact ⟨_,by rw [if_pos hq91],by simp only [List.map_dropLast,h.fl],fun e=>by omega⟩
   ·cases hs
 rw [if_neg c5] at hs ⊢
 by_cases c6:Ah l i=126
 ·rw [if_pos c6] at hs
  cases hk:Bl s.op s.op.length with
  | none=>rw [hk] at hs;cases hs
  | some k =>
   rw [hk] at hs
   obtain ⟨_,p,hp,_⟩:=EM _ _ _ hk
   simp only [hp] at hs
   injection hs with hs;subst hs
   refine ⟨_,rfl,?_,fun _=>(TN h.fl).mp ⟨k,hk⟩⟩
   simp only [← h.fl]
   rw [List.map_set]
   apply List.ext_getElem?
   intro j
   rw [List.getElem?_set]
   split
   ·rename_i e;subst e
    split
    ·rw [List.getElem?_map,hp];rfl
    ·rename_i hh;simp at hh;rw [List.getElem?_map,hp];simp [List.getElem?_eq_none_iff.mpr hh] at hp
   ·rfl
 ·rw [if_neg c6] at hs
  injection hs with hs;subst hs
  exact ⟨_,rfl,h.fl,fun e=>absurd e c6⟩
theorem PR.bwd {l:List Tok} {i:Nat} {s:Mt} {r r1:NS} (h:PR l i s r) (hs:Cr l i r=some r1) (hx:Ah l i=126→∃ q ∈ r.op,Ah l q=91):∃ s1,BX (Ah l i) i s=some s1:=by
 have hlen:=h.len
 unfold BX
 rcases Ec hs with ⟨c,c16,e1,e2⟩ | ⟨c,q,hq,c2,e1,e2⟩ | ⟨c,q,hq,c2,e1,e2⟩ | ⟨c,q,hq,c2,e1,e2⟩ | ⟨c,e1,e2⟩
 ·rcases c with c | c
  ·exact ⟨_,by rw [if_pos c,if_pos (by omega)]⟩
  ·exact ⟨_,by rw [if_neg (by omega),if_pos c,if_pos (by omega)]⟩
 ·rcases h.last with ⟨_,f2⟩ | ⟨p,q',f1,f2,f3,f4,f5,f6⟩
  ·rw [hq] at f2;cases f2
  ·rw [hq] at f2;injection f2 with f2;subst f2
   rw [if_neg (by omega),if_neg (by omega),if_pos c,f1]
   simp only
   have:(p.loop||decide (0<p.ot))=false:=by rw [f3,f4];simp;omega
   exact ⟨_,by rw [if_neg (by simp [this])]⟩
 ·rcases h.last with ⟨_,f2⟩ | ⟨p,q',f1,f2,f3,f4,f5,f6⟩
  ·rw [hq] at f2;cases f2
  ·rw [hq] at f2;injection f2 with f2;subst f2
   rw [if_neg (by omega),if_neg (by omega),if_neg (by omega),if_pos c,f1]
   simp only
   have:p.loop=false:=by rw [f3];simpa using c2
   exact ⟨_,by rw [if_neg (by simp [this])]⟩
 ·rcases h.last with ⟨_,f2⟩ | ⟨p,q',f1,f2,f3,f4,f5,f6⟩
  ·rw [hq] at f2;cases f2
  ·rw [hq] at f2;injection f2 with f2;subst f2
   rw [if_neg (by omega),if_neg (by omega),if_neg (by omega),if_neg (by omega),if_pos c,f1]
   simp only
   have:p.loop=true:=by rw [f3];simpa using c2
   exact ⟨_,by rw [if_pos this]⟩
 ·rw [if_neg (by omega),if_neg (by omega),if_neg (by omega),if_neg (by omega),if_neg (by omega)]
  by_cases c6:Ah l i=126
  ·rw [if_pos c6]
   obtain ⟨k,hk⟩:=(TN h.fl).mpr (hx c6)
   obtain ⟨_,p,hp,_⟩:=EM _ _ _ hk
   rw [hk]
   simp only [hp]
   exact ⟨_,rfl⟩
  ·exact ⟨_,by rw [if_neg c6]⟩
def Xf (l:List Tok) (i:Nat) (to:List Int):Prop:=∀ j,i≤j→j<l.length→Ah l j=126→∃ m q:Nat,j≤m∧m<l.length∧Ah l m=93∧to[m]? = some (q:Int)∧q<j
theorem Xv (l:List Tok):∀ (k i:Nat) (s s':Mt) (r:NS),l.length=i+k→PR l i s r→Br l k i s=some s'→s'.op=[]→∃ r',Bi l k i r=some r'∧r'.op=[]∧Xf l i r'.to:=by
 intro k
 induction k with
 | zero =>
  intro i s s' r hl h hp he
  injection hp with hp;subst hp
  refine ⟨r,rfl,?_,fun j h1 h2=>by omega⟩
  have:=h.len;rw [he] at this;exact List.length_eq_zero_iff.mp this.symm
 | succ k ih =>
  intro i s s' r hl h hp he
  simp only [Br] at hp
  cases hs:BX (Ah l i) i s with
  | none=>rw [hs] at hp;cases hp
  | some s1 =>
   rw [hs] at hp
   obtain ⟨r1,h1,h2,h3⟩:=h.fwd hs
   obtain ⟨r',g1,g2,g3⟩:=ih (i+1) s1 s' r1 (by omega) h2 hp he
   refine ⟨r',by simp only [Bi,h1];exact g1,g2,fun j j1 j2 j3=>?_⟩
   by_cases hj:j=i
   ·subst hj
    obtain ⟨q,q1,q2⟩:=h3 j3
    have hq1:q ∈ r1.op:=by
     rcases Ec h1 with ⟨c,_,e1,e2⟩ | ⟨c,p,hp,c2,e1,e2⟩ | ⟨c,p,hp,c2,e1,e2⟩ | ⟨c,p,hp,c2,e1,e2⟩ | ⟨c,e1,e2⟩
     ·omega
     ·omega
     ·omega
     ·omega
     ·rw [e1];exact q1
    obtain ⟨m,m1,m2,m3,m4⟩:=eh l q q2 k (j+1) r1 r' (by omega) g1 g2 h2.ok hq1
    exact ⟨m,q,by omega,m2,m3,m4,h.ok.lt q q1⟩
   ·exact g3 j (by omega) j2 j3
theorem Xk (l:List Tok):∀ (k i:Nat) (s:Mt) (r r':NS),l.length=i+k→PR l i s r→Bi l k i r=some r'→r'.op=[]→Xf l i r'.to→∃ s',Br l k i s=some s'∧s'.op=[]:=by
 intro k
 induction k with
 | zero =>
  intro i s r r' hl h hp he _
  injection hp with hp;subst hp
  refine ⟨s,rfl,?_⟩
  have:=h.len;rw [he] at this;exact List.length_eq_zero_iff.mp this
 | succ k ih =>
  intro i s r r' hl h hp he hL
  have hp0:=hp
  simp only [Bi] at hp
  cases hs:Cr l i r with
  | none=>rw [hs] at hp;cases hp
  | some r1 =>
   rw [hs] at hp
   obtain ⟨s1,h1⟩:=h.bwd hs (fun c=>by
    obtain ⟨m,q,m1,m2,m3,m4,m5⟩:=hL i (Nat.le_refl _) (by omega) c
    obtain ⟨g1,g2⟩:=dR l (k+1) i r r' m q hl hp0 h.ok m1 m2 m3 m4 m5
    exact ⟨q,g1,g2⟩)
   obtain ⟨r2,h2,h3,_⟩:=h.fwd h1
   rw [hs] at h2;injection h2 with h2;subst h2
   obtain ⟨s',g1,g2⟩:=ih (i+1) s1 r1 r' (by omega) h3 hp he (fun j j1 j2 j3=>hL j (by omega) j2 j3)
   exact ⟨s',by simp only [Br,h1];exact g1,g2⟩
theorem cP {l:List Tok}:∀ (k i:Nat) (r r':NS),Bi l k i r=some r'→ROk l i r→r'.to.length=l.length:=by
 intro k
 induction k with
 | zero=>intro i r r' h hr;injection h with h;subst h;exact hr.tl
 | succ k ih =>
  intro i r r' h hr
  simp only [Bi] at h
  cases hs:Cr l i r with
  | none=>rw [hs] at h;cases h
  | some r1=>rw [hs] at h;exact ih (i+1) r1 r' h (hr.step hs)
theorem bB (l:List Tok):∀ (k i:Nat) (r r':NS) (m:Nat),l.length=i+k→Bi l k i r=some r'→ROk l i r→i≤m→m<l.length→Ah l m=93→∃ q:Nat,r'.to[m]? = some (q:Int):=by
 intro k
 induction k with
 | zero=>intro i r r' m hl _ _ h1 h2;omega
 | succ k ih =>
  intro i r r' m hl h hr h1 h2 h3
  simp only [Bi] at h
  cases hs:Cr l i r with
  | none=>rw [hs] at h;cases h
  | some r1 =>
   rw [hs] at h
   have hr1:=hr.step hs
   by_cases hm:m=i
   ·subst hm
    rw [Qp l m h3 k (m+1) r1 r' h hr1 (by omega)]
    rcases Ec hs with ⟨c,_,e1,e2⟩ | ⟨c,p,hp,c2,e1,e2⟩ | ⟨c,p,hp,c2,e1,e2⟩ | ⟨c,p,hp,c2,e1,e2⟩ | ⟨c,e1,e2⟩
    ·omega
    ·omega
    ·omega
    ·exact ⟨p,by rw [e2,List.getElem?_set_self (by rw [List.length_set,hr.tl];omega)]⟩
    ·omega
   ·exact ih (i+1) r1 r' m (by omega) h hr1 (by omega) h2 h3
theorem Ww (l:List Tok):(BW l).isSome=(GJ l).isSome:=by
 have h0:PR l 0 ⟨List.replicate l.length (-1),[],0⟩ ⟨List.replicate l.length 0,[],0⟩:=⟨rfl,⟨by simp,by simp,by simp⟩⟩
 have hleft:∀ r',Bi l l.length 0 ⟨List.replicate l.length 0,[],0⟩=some r'→((Fd l l.length 0 r'.to).isSome=true↔Xf l 0 r'.to):=fun r' hr'=>by
  rw [Vj]
  have htl:=cP l.length 0 _ r' hr' h0.ok
  refine ⟨fun h j j1 j2 j3=>?_,fun h j j1 j2 j3=>?_⟩
  ·obtain ⟨m,m1,m2,m3,m4⟩:=(Pu l r'.to j (l.length - j) j).mp (h j j1 (by omega) j3)
   obtain ⟨q,hq⟩:=bB l l.length 0 _ r' m (by omega) hr' h0.ok (by omega) (by omega) m3
   refine ⟨m,q,m1,by omega,m3,hq,?_⟩
   rw [List.getD_eq_getElem?_getD,hq] at m4
   simp at m4;exact m4
  ·obtain ⟨m,q,m1,m2,m3,m4,m5⟩:=h j j1 (by omega) j3
   refine (Pu l r'.to j (l.length - j) j).mpr ⟨m,m1,by omega,m3,?_⟩
   rw [List.getD_eq_getElem?_getD,m4]
   simp;exact m5
 rw [Bool.eq_iff_iff]
 constructor
 ·intro h
  unfold BW at h
  cases hp:Br l l.length 0 ⟨List.replicate l.length (-1),[],0⟩ with
  | none=>rw [hp] at h;cases h
  | some s' =>
   rw [hp] at h
   simp only at h
   split at h
   ·rename_i he
    obtain ⟨r',g1,g2,g3⟩:=Xv l l.length 0 _ s' _ (by omega) h0 hp he
    have hs:=(hleft r' g1).mpr g3
    unfold GJ
    rw [g1]
    simp only
    rw [if_pos g2,Option.isSome_map]
    exact hs
   ·cases h
 ·intro h
  unfold GJ at h
  cases hp:Bi l l.length 0 ⟨List.replicate l.length 0,[],0⟩ with
  | none=>rw [hp] at h;cases h
  | some r' =>
   rw [hp] at h
   simp only at h
   split at h
   ·rename_i he
    rw [Option.isSome_map] at h
    obtain ⟨s',g1,g2⟩:=Xk l l.length 0 _ _ r' (by omega) h0 hp he ((hleft r' hp).mp h)
    unfold BW
    rw [g1]
    simp only
    rw [if_pos g2]
    rfl
   ·cases h
end Go.Ev
namespace Go.Ev
open Go
section
variable {bar:Nat} {h:H} {p m:Int} {fa:AV}
theorem cw {o:Oracle} {bar:Nat} {h0 g:H} {a:AV} {l:List Int} (hv:Vw 1 h0 a l.length (l.flatMap i64c)) (hag:Ag h0.n h0 g) {i:Nat} (hi:i<l.length) {c d:Nat} {r:List IOper} {ks:List Fr} {e:Env} {Q:Ex→Env→H→Prop}
  (hw:∀ v,HC o bar r ks ((d,.int .i64 l[i])::(c,v)::e) g Q):Lh o bar (Hu 1 (some a) (some (.int .i64 (i:Nat))) g) (some c) (⟨some d,.ld false 1 (.t c),none⟩::r) ks e Q:=by
 have hbi:(i:Int)<(l.length:Int):=by omega
 obtain ⟨hl,_,⟨rfl,h2⟩ | ⟨full,rfl⟩ | ⟨id,off,full,all,q,rfl,hid,hg,hle,hc⟩⟩:=hv
 ·omega
 ·have hcf:=Kx hi
  generalize l.flatMap i64c=cs at *
  have hl':(cs.length=l.length)=True:=by simpa using hl
  simp [go_sem,AJ,hi,hbi,hl',hcf]
  exact hw _
 ·have hcf:all[off+i]? = some (.int .i64 l[i]):=by
   have:=Kx hi
   rw [← hc,List.getElem?_take_of_lt (by omega),List.getElem?_drop] at this
   exact this
  have hg2:=(hag.2 _ hid).trans hg
  simp [go_sem,AJ,hi,hbi,hg2,hcf]
  exact hw _
theorem Vf (fs:List Fn) (k:Int) (hv:FV h fa fs):∃ a,call tb prim DV [.agg [.int .i64 p,.int .i64 m,fa],.int .i64 k] bar h=some (.tup [a,.int .i64 (Cl (fun l=>(BW l).isSome) fs k).2],h)∧FzV 1 a (Cl (fun l=>(BW l).isSome) fs k).1.length ((Cl (fun l=>(BW l).isSome) fs k).1.flatMap i64c) :=
 UR (fun l=>(BW l).isSome) fs k hv Ww (fun l hl=>by
  cases hn:BW l with
  | none=>simp [hn] at hl
  | some to=>exact Py fs l hn)
end
end Go.Ev
namespace Go.Proofs
open Go.Shelf
def Tryz.laysPI_ren:Go.Shelf.Ren:=⟨fun | 174=>133 | 247=>153 | 245=>154 | 287=>165 | 279=>166 | 280=>167 | 281=>168 | 282=>169 | 321=>172 | 322=>173 | 316=>174 | 171=>176 | 205=>175 | 243=>177 | 246=>178 | 283=>179 | 284=>180 | 285=>181 | 286=>182 | 129=>184 | 317=>183 | 318=>185 | 319=>186 | 320=>187 | 337=>188 | 338=>189 | n=>n,fun | 9=>9 | 3=>3 | 2=>2 | 75=>234 | 85=>235 | 4=>4 | 167=>250 | 5=>5 | 53=>198 | 175=>251 | 46=>135 | 168=>253 | 37=>61 | 0=>0 | 210=>262 | 21=>21 | 127=>264 | 145=>267 | 143=>265 | 171=>269 | 173=>272 | 212=>275 | 51=>276 | 20=>20 | 213=>277 | 232=>280 | 233=>281 | 80=>282 | n=>n,fun | 15=>1 | 16=>2 | 17=>3 | 18=>4 | 19=>5 | n=>n⟩
theorem Tryz.laysPI:Go.Proofs.LaysC.n174 Tryz.prog Tryz.laysPI_ren where
 mixed:=by kernel_rfl
 f129:=Tryz.func184.trans (congrArg some (by kernel_rfl))
 f171:=Tryz.func176.trans (congrArg some (by kernel_rfl))
 f174:=Tryz.func133.trans (congrArg some (by kernel_rfl))
 f205:=Tryz.func175.trans (congrArg some (by kernel_rfl))
 f243:=Tryz.func177.trans (congrArg some (by kernel_rfl))
 f245:=Tryz.func154.trans (congrArg some (by kernel_rfl))
 f246:=Tryz.func178.trans (congrArg some (by kernel_rfl))
 f247:=Tryz.func153.trans (congrArg some (by kernel_rfl))
 f279:=Tryz.func166.trans (congrArg some (by kernel_rfl))
 f280:=Tryz.func167.trans (congrArg some (by kernel_rfl))
 f281:=Tryz.func168.trans (congrArg some (by kernel_rfl))
 f282:=Tryz.func169.trans (congrArg some (by kernel_rfl))
 f283:=Tryz.func179.trans (congrArg some (by kernel_rfl))
 f284:=Tryz.func180.trans (congrArg some (by kernel_rfl))
 f285:=Tryz.func181.trans (congrArg some (by kernel_rfl))
 f286:=Tryz.func182.trans (congrArg some (by kernel_rfl))
 f287:=Tryz.func165.trans (congrArg some (by kernel_rfl))
 f316:=Tryz.func174.trans (congrArg some (by kernel_rfl))
 f317:=Tryz.func183.trans (congrArg some (by kernel_rfl))
 f318:=Tryz.func185.trans (congrArg some (by kernel_rfl))
 f319:=Tryz.func186.trans (congrArg some (by kernel_rfl))
 f320:=Tryz.func187.trans (congrArg some (by kernel_rfl))
 f321:=Tryz.func172.trans (congrArg some (by kernel_rfl))
 f322:=Tryz.func173.trans (congrArg some (by kernel_rfl))
 f337:=Tryz.func188.trans (congrArg some (by kernel_rfl))
 f338:=Tryz.func189.trans (congrArg some (by kernel_rfl))
 t0:=Tryz.underlying0
 a0:=Tryz.isAgg0
 z0:=Tryz.sizeOf0
 v0:=Tryz.zeroValue0
 t2:=Tryz.underlying2
 a2:=Tryz.isAgg2
 z2:=Tryz.sizeOf2
 v2:=Tryz.zeroValue2
 t3:=Tryz.underlying3
 a3:=Tryz.isAgg3
 z3:=Tryz.sizeOf3
 v3:=Tryz.zeroValue3
 t4:=Tryz.underlying4
 a4:=Tryz.isAgg4
 z4:=Tryz.sizeOf4
 v4:=Tryz.zeroValue4
 t5:=Tryz.underlying5
 a5:=Tryz.isAgg5
 z5:=Tryz.sizeOf5
 v5:=Tryz.zeroValue5
 t9:=Tryz.underlying9
 a9:=Tryz.isAgg9
 z9:=Tryz.sizeOf9
 v9:=Tryz.zeroValue9
 t20:=Tryz.underlying20
 a20:=Tryz.isAgg20
 z20:=Tryz.sizeOf20
 v20:=Tryz.zeroValue20
 t21:=Tryz.underlying21
 a21:=Tryz.isAgg21
 z21:=Tryz.sizeOf21
 v21:=Tryz.zeroValue21
 t37:=Tryz.underlying61
 a37:=Tryz.isAgg61
 z37:=Tryz.sizeOf61
 v37:=Tryz.zeroValue61
 t46:=Tryz.underlying135
 a46:=Tryz.isAgg135
 z46:=Tryz.sizeOf135
 v46:=Tryz.zeroValue135
 t51:=Tryz.underlying276
 a51:=Tryz.isAgg276
 z51:=Tryz.sizeOf276
 v51:=Tryz.zeroValue276
 t53:=Tryz.underlying198
 a53:=Tryz.isAgg198
 z53:=Tryz.sizeOf198
 v53:=Tryz.zeroValue198
 t75:=Tryz.underlying234
 a75:=Tryz.isAgg234
 z75:=Tryz.sizeOf234
 v75:=Tryz.zeroValue234
 t85:=Tryz.underlying235
 a85:=Tryz.isAgg235
 z85:=Tryz.sizeOf235
 v85:=Tryz.zeroValue235
 t127:=Tryz.underlying264
 a127:=Tryz.isAgg264
 z127:=Tryz.sizeOf264
 v127:=Tryz.zeroValue264
 t143:=Tryz.underlying265
 a143:=Tryz.isAgg265
 z143:=Tryz.sizeOf265
 v143:=Tryz.zeroValue265
 t145:=Tryz.underlying267
 a145:=Tryz.isAgg267
 z145:=Tryz.sizeOf267
 v145:=Tryz.zeroValue267
 t167:=Tryz.underlying250
 a167:=Tryz.isAgg250
 z167:=Tryz.sizeOf250
 v167:=Tryz.zeroValue250
 t168:=Tryz.underlying253
 a168:=Tryz.isAgg253
 z168:=Tryz.sizeOf253
 v168:=Tryz.zeroValue253
 t171:=Tryz.underlying269
 a171:=Tryz.isAgg269
 z171:=Tryz.sizeOf269
 v171:=Tryz.zeroValue269
 t173:=Tryz.underlying272
 a173:=Tryz.isAgg272
 z173:=Tryz.sizeOf272
 v173:=Tryz.zeroValue272
 t175:=Tryz.underlying251
 a175:=Tryz.isAgg251
 z175:=Tryz.sizeOf251
 v175:=Tryz.zeroValue251
 t210:=Tryz.underlying262
 a210:=Tryz.isAgg262
 z210:=Tryz.sizeOf262
 v210:=Tryz.zeroValue262
 t212:=Tryz.underlying275
 a212:=Tryz.isAgg275
 z212:=Tryz.sizeOf275
 v212:=Tryz.zeroValue275
 t213:=Tryz.underlying277
 a213:=Tryz.isAgg277
 z213:=Tryz.sizeOf277
 t232:=Tryz.underlying280
 a232:=Tryz.isAgg280
 z232:=Tryz.sizeOf280
 v232:=Tryz.zeroValue280
 t233:=Tryz.underlying281
 a233:=Tryz.isAgg281
 z233:=Tryz.sizeOf281
 v233:=Tryz.zeroValue281
 g15:=by kernel_rfl
 g16:=by kernel_rfl
 g17:=by kernel_rfl
 g18:=by kernel_rfl
 g19:=by kernel_rfl
 t80:=Tryz.underlying282
 a80:=Tryz.isAgg282
 z80:=Tryz.sizeOf282
 v80:=Tryz.zeroValue282
 i0:=by kernel_rfl
 i2:=by kernel_rfl
 i3:=by kernel_rfl
 i4:=by kernel_rfl
 i5:=by kernel_rfl
 i9:=by kernel_rfl
 i20:=by kernel_rfl
 i21:=by kernel_rfl
 i37:=by kernel_rfl
 i46:=by kernel_rfl
 i51:=by kernel_rfl
 i53:=by kernel_rfl
 i75:=by kernel_rfl
 i80:=by kernel_rfl
 i85:=by kernel_rfl
 i127:=by kernel_rfl
 i143:=by kernel_rfl
 i145:=by kernel_rfl
 i167:=by kernel_rfl
 i168:=by kernel_rfl
 i171:=by kernel_rfl
 i173:=by kernel_rfl
 i175:=by kernel_rfl
 i210:=by kernel_rfl
 i212:=by kernel_rfl
 i232:=by kernel_rfl
 i233:=by kernel_rfl
 m15:=by kernel_rfl
 m16:=by kernel_rfl
 m17:=by kernel_rfl
 m18:=by kernel_rfl
 m19:=by kernel_rfl
 c0:=by kernel_rfl
 c2:=by kernel_rfl
 c3:=by kernel_rfl
 c4:=by kernel_rfl
 c5:=by kernel_rfl
 c9:=by kernel_rfl
 c20:=by kernel_rfl
 c21:=by kernel_rfl
 c37:=by kernel_rfl
 c46:=by kernel_rfl
 c51:=by kernel_rfl
 c53:=by kernel_rfl
 c75:=by kernel_rfl
 c80:=by kernel_rfl
 c85:=by kernel_rfl
 c127:=by kernel_rfl
 c143:=by kernel_rfl
 c145:=by kernel_rfl
 c167:=by kernel_rfl
 c168:=by kernel_rfl
 c171:=by kernel_rfl
 c173:=by kernel_rfl
 c175:=by kernel_rfl
 c210:=by kernel_rfl
 c212:=by kernel_rfl
 c213:=by kernel_rfl
 c232:=by kernel_rfl
 c233:=by kernel_rfl
def Tryz.laysIB_ren:Go.Shelf.Ren:=⟨fun | 137=>136 | 217=>160 | 266=>171 | n=>n,fun | 9=>9 | 5=>5 | 3=>3 | n=>n,fun | n=>n⟩
theorem Tryz.laysIB:Go.Proofs.Lays.n137 Tryz.prog Tryz.laysIB_ren where
 mixed:=by kernel_rfl
 f137:=Tryz.func136.trans (congrArg some (by kernel_rfl))
 f217:=Tryz.func160.trans (congrArg some (by kernel_rfl))
 f266:=Tryz.func171.trans (congrArg some (by kernel_rfl))
 t3:=Tryz.underlying3
 a3:=Tryz.isAgg3
 z3:=Tryz.sizeOf3
 v3:=Tryz.zeroValue3
 t5:=Tryz.underlying5
 a5:=Tryz.isAgg5
 z5:=Tryz.sizeOf5
 v5:=Tryz.zeroValue5
 t9:=Tryz.underlying9
 a9:=Tryz.isAgg9
 z9:=Tryz.sizeOf9
 v9:=Tryz.zeroValue9
end Go.Proofs
namespace Go.Ev
open Go Go.Proofs
theorem Sg {φ:Phi} {I:Imm} {h:H} {w w':World} {bar:Nat} (hb:Go.RowKit.Below w.heap.size w w') (hR:R φ I h w):R φ I h w'∧Stp bar φ I h w φ I h w':=by
 have hcell:∀ b j v,w.cell? ⟨b,j,none⟩=some v→w'.cell? ⟨b,j,none⟩=some v:=fun b j v hc=>by
  have hlt:b<w.heap.size:=Lib.lt_of_cell hc
  rw [hb.cell (p:=⟨b,j,none⟩) hlt];exact hc
 refine ⟨⟨hR.wf,hR.dom,fun i x hx=>?_,hR.inj,fun b j v hv=>hcell b j v (hR.imm b j v hv)⟩,⟨.refl _,.refl _,hb.size,fun b hlt _=>hb.block b hlt,fun i x hb hl hp=>.inr ⟨i,x,hb,hl,hp,rfl⟩,fun _ _=>rfl,Nat.le_refl _,hb.os,hb.output,fun _ _ _ hv=>.inl hv⟩⟩
 refine (hR.obj i x hx).keep (.refl _) (.refl _) (fun b s t hp=>?_) (fun _ _ _ _ _ _ hv=>hv)
 obtain ⟨b',s',t',hp',hlt⟩:=(hR.obj i x hx).block
 rw [hp'] at hp
 injection hp with hp
 injection hp with hp _
 subst hp
 exact hb.block _ hlt
theorem Su {I:Imm} {φ:Phi} {h:H} {w:World} {g:Nat} (hG:GR Gl I) (hR:R φ I h w) (hg:Gl g=some [.ifc Ff (.fptr [] 0)]):∃ te pe,w.cell? ⟨g,0,none⟩=some (.iface te pe):=by
 have h1:=hG g _ hg
 generalize hp:(Value.pointer (some ⟨g,0,none⟩))=pv at h1
 cases h1 with
 | fptr cs off b o vs a1 a2 a3 =>
  have h2:=a1 0 _ rfl
  have h3:=a2 0 _ rfl
  simp only [Value.pointer.injEq,Option.some.injEq,Addr.mk.injEq] at hp
  obtain ⟨e1,e2,_⟩:=hp
  have e3:o=0:=by omega
  subst e1;subst e3
  have h4:=hR.imm _ _ _ h2
  generalize hv:vs 0=v at h3 h4
  cases h3 with
  | ifc t c v h5=>exact ⟨_,_,h4⟩
theorem Ve:Ho Tryz.prog Gl prim:=by
 intro f args bar h r h' hr
 unfold prim at hr
 split at hr
 ·rename_i hf
  split at hr
  ·rename_i s b z
   split at hr
   ·rename_i hc
    obtain ⟨rfl,rfl,hsz⟩:=hc
    injection hr with hr
    injection hr with hr1 hr2
    subst hr1;subst hr2;subst hf
    refine ⟨⟨_,Tryz.func133,by kernel_rfl,of_decide_eq_true (by kernel_rfl)⟩,fun φ I w vs hR hG hv hbar=>?_⟩
    have hvs:vs=[.string s,.int .i64 10,.int .i64 64]:=by
     have hl:=hv.1
     match vs,hl,hv.2 with
     | [v1,v2,v3],_,hv =>
      have a1:=hv 0 _ _ rfl rfl
      have a2:=hv 1 _ _ rfl rfl
      have a3:=hv 2 _ _ rfl rfl
      cases a1;cases a2;cases a3;rfl
    subst hvs
    have hgo:∀ {w':World} {v:Value},Go.RowKit.Below w.heap.size w w'→VR φ I (JC s) v→∃ v' φ' I',Ending.returned v=.returned v'∧R φ' I' h w'∧VR φ' I' (JC s) v'∧Stp bar φ I h w φ' I' h w':=fun hb hvr=>by
     obtain ⟨q1,q2⟩:=Sg (bar:=bar) hb hR
     exact ⟨_,φ,I,rfl,q1,hvr,q2⟩
    cases hp:Lib.parseIntB 64 s.data.toList
    ·rename_i v
     refine (Any.strconv_ParseInt_10_at64_ok Tryz.laysPI s (by omega) v hp w).mono fun e w' he=>?_
     obtain ⟨rfl,hW⟩:=he
     have hb:Go.RowKit.Below w.heap.size w w':=by
      rcases hW with rfl | ⟨t,rfl⟩
      ·exact Go.RowKit.Below.refl _ _
      ·exact Lib.bytesWorld_below _ _ _
     refine hgo hb ?_
     unfold JC;rw [hp]
     refine .tup _ _ rfl fun i c v h1 h2=>?_
     match i with
     | 0=>simp at h1 h2;subst h1;subst h2;exact .int _ _
     | 1=>simp at h1 h2;subst h1;subst h2;exact .nilifc
     | n+2=>simp at h1
    ·obtain ⟨te,pe,hcell⟩:=Su (g:=1) hG hR rfl
     refine (Any.strconv_ParseInt_10_at64_syntax Tryz.laysPI s hsz hp _ w hcell (.inr ⟨te,pe,rfl⟩)).mono fun e w' he=>?_
     obtain ⟨N,rfl,_,_,hb⟩:=he
     refine hgo hb ?_
     unfold JC;rw [hp]
     refine .tup _ _ rfl fun i c v h1 h2=>?_
     match i with
     | 0=>simp at h1 h2;subst h1;subst h2;exact .int _ _
     | 1 =>
      simp at h1 h2;subst h1;subst h2
      exact .ifc _ _ _ (.fptr [] 0 N 0 (fun _=>default) (fun i c h=>by simp at h) (fun i c h=>by simp at h) (fun i c h=>by simp at h))
     | n+2=>simp at h1
    ·obtain ⟨te,pe,hcell⟩:=Su (g:=2) hG hR rfl
     refine (Any.strconv_ParseInt_10_at64_range Tryz.laysPI s hsz hp _ w hcell (.inr ⟨te,pe,rfl⟩)).mono fun e w' he=>?_
     obtain ⟨N,rfl,_,_,hb⟩:=he
     refine hgo hb ?_
     unfold JC;rw [hp]
     refine .tup _ _ rfl fun i c v h1 h2=>?_
     match i with
     | 0=>simp at h1 h2;subst h1;subst h2;exact .int _ _
     | 1 =>
      simp at h1 h2;subst h1;subst h2
      exact .ifc _ _ _ (.fptr [] 0 N 0 (fun _=>default) (fun i c h=>by simp at h) (fun i c h=>by simp at h) (fun i c h=>by simp at h))
     | n+2=>simp at h1
   ·cases hr
  ·cases hr
 ·split at hr
  ·rename_i hf
   split at hr
   ·rename_i s b
    injection hr with hr
    injection hr with hr1 hr2
    subst hr1;subst hr2;subst hf
    refine ⟨⟨_,Tryz.func136,by kernel_rfl,of_decide_eq_true (by kernel_rfl)⟩,fun φ I w vs hR hG hv hbar=>?_⟩
    have hvs:vs=[.string s,.int .u8 b]:=by
     have hl:=hv.1
     match vs,hl,hv.2 with
     | [v1,v2],_,hv =>
      have a1:=hv 0 _ _ rfl rfl
      have a2:=hv 1 _ _ rfl rfl
      cases a1;cases a2;rfl
    subst hvs
    refine (Any.strings_IndexByte Tryz.laysIB s b w).mono fun e w' he=>?_
    obtain ⟨rfl,rfl⟩:=he
    obtain ⟨q1,q2⟩:=Sg (bar:=bar) (Go.RowKit.Below.refl _ _) hR
    exact ⟨_,φ,I,rfl,q1,.int _ _,q2⟩
   ·cases hr
  ·cases hr
theorem cX:TabOk Tryz.prog Gl pu tb prim where
 mixed:=by kernel_rfl
 funs:=fun f F hf=>by
  unfold tb at hf
  cases hx:tbl.find? (fun x=>x.1 == f) with
  | none=>rw [hx] at hf;cases hf
  | some x =>
   rw [hx] at hf
   injection hf with hf
   subst hf
   have h1:=List.find?_some hx
   have h2:=List.mem_of_find?_eq_some hx
   simp at h1
   subst h1
   exact bc x h2
 prims:=Ve
 pureF:=fun f F hp hf=>by unfold pu at hp;rw [hf] at hp;exact hp
 pureP:=fun f args bar h r h' _ hr=>by
  unfold prim at hr
  split at hr
  ·split at hr
   ·split at hr
    ·injection hr with hr;injection hr with _ hr;exact hr.symm
    ·cases hr
   ·cases hr
  ·split at hr
   ·split at hr
    ·injection hr with hr;injection hr with _ hr;exact hr.symm
    ·cases hr
   ·cases hr
end Go.Ev
namespace Go.Ev
open Go Go.ChangeShapes Go.WideShapes Go.RowKit Go.Proofs
theorem TI {P:Program} {W:World}:∀ {laid:List (String × DataW Unit)} {ps:List MemPlace},DataW.LaidVars P W laid ps→∀ x ∈ laid,∃ g t cs fuel p,P.globalNamed x.1=some g∧(P.globals[g]?).map (·.type)=some t∧W.var? P x.1=some cs∧DataW.trod (fun _=>()) P W 0 (fun _=>true) false fuel t cs.toList=some (x.2,p)∧∀ q ∈ MemPlace.row ⟨g,0,none⟩ cs.size,q ∈ ps
 | [],_,_,x,hx=>by cases hx
 | (n,d)::r,ps,h,x,hx=>by
  obtain ⟨g,t,cs,fuel,p,q,h1,h2,h3,h4,h5,rfl⟩:=h
  rcases List.mem_cons.1 hx with rfl | hx
  ·exact ⟨g,t,cs,fuel,p,h1,h2,h3,h4,fun q hq=>List.mem_append_left _ (List.mem_append_left _ hq)⟩
  ·obtain ⟨g',t',cs',f',p',a1,a2,a3,a4,a5⟩:=TI h5 x hx
   exact ⟨g',t',cs',f',p',a1,a2,a3,a4,fun z hz=>List.mem_append_right _ (a5 z hz)⟩
theorem Rj : "*" ++ "errors.errorString" = "*errors.errorString" := by decide
theorem cO (u:TypeId) (h:Tryz.prog.typeName? 3 u=some "*errors.errorString"):u=265 :=
 typeName_ptr_named (nm := "errors.errorString") (by rw [Rj];kernel_rfl) (by kernel_rfl) (by decide) u (by rw [Rj];exact h)
theorem Xm:Tryz.prog.cellsOf 267=1:=by kernel_rfl
theorem ax:Tryz.prog.cellsOf 9=1:=by kernel_rfl
set_option maxRecDepth 100000 in
theorem Sv {W:World} {laid:List (String × DataW Unit)} (h:laidMet Tryz.prog laid W) {n:String} {g:Nat} {text:List UInt8} (hx:(n,DataW.iface "*errors.errorString" (.ptr (.agg [.lit (.string text)]))) ∈ laid) (hg:Tryz.prog.globalNamed n=some g) (ht:(Tryz.prog.globals[g]?).map (·.type)=some 234) :
  ∃ a:Addr,W.cell? ⟨g,0,none⟩=some (.iface 265 (.pointer (some ⟨a.block,a.off,none⟩))):=by
 obtain ⟨ps,hl,hnd,hrows⟩:=h
 obtain ⟨g',t,cs,fuel,p,a1,a2,a3,a4,a5⟩:=TI hl _ hx
 obtain rfl:=Option.some.inj (hg.symm.trans a1)
 obtain rfl:=Option.some.inj (ht.symm.trans a2)
 obtain ⟨l⟩:=cs
 have hcell:=fun i=>World.var?_cell hg a3 i
 have ok:∀ u v,l=[.iface u v]→Value.okWide Tryz.prog W .any 0 u v:=fun u v e=>by
  subst e
  exact (hrows g 0 (a5 _ (by simp [MemPlace.row]))).2 u v (by simpa using hcell 0)
 obtain ⟨a,s,rfl,hc,_,_,_⟩:=errorString_of_trod (ti:=234) (tp:=265) (te:=267) (ts:=9) Tryz.underlying234 cO Tryz.underlying265 Tryz.underlying267 rfl rfl Tryz.underlying9 Xm ax a4 ok
 have:=hcell 0
 have ha:a=⟨a.block,a.off,none⟩:=RN hc
 refine ⟨a,?_⟩
 rw [← ha]
 simpa using this
theorem dI {W:World} {laid:List (String × DataW Unit)} (hL:laidMetH Tryz.prog laid W) (hp:(laid.all fun x=>x.2.handleName?.isNone)=true)
  (h1:∃ text,("strconv.ErrRange",DataW.iface "*errors.errorString" (.ptr (.agg [.lit (.string text)]))) ∈ laid) (h0:∃ text,("strconv.ErrSyntax",DataW.iface "*errors.errorString" (.ptr (.agg [.lit (.string text)]))) ∈ laid):GR Gl (CX W):=by
 rw [MakeChecks.laidMetH_plain _ _ _ hp] at hL
 obtain ⟨t1,h1⟩:=h1
 obtain ⟨t0,h0⟩:=h0
 obtain ⟨a1,c1⟩:=Sv hL h1 (g:=2) (by kernel_rfl) (by kernel_rfl)
 obtain ⟨a0,c0⟩:=Sv hL h0 (g:=1) (by kernel_rfl) (by kernel_rfl)
 have hgo:∀ (g:Nat) (a:Addr),W.cell? ⟨g,0,none⟩=some (.iface 265 (.pointer (some ⟨a.block,a.off,none⟩)))→VR (fun _=>none) (CX W) (.fptr [.ifc Ff (.fptr [] 0)] 0) (.pointer (some ⟨g,0,none⟩)):=fun g a hc=>by
  refine .fptr _ 0 g 0 (fun _=>.iface 265 (.pointer (some ⟨a.block,a.off,none⟩))) (fun i c hi=>?_) (fun i c hi=>?_) (fun i c hi=>?_)
  ·cases i with
   | zero=>exact hc
   | succ i=>simp at hi
  ·cases i with
   | zero =>
    simp at hi;subst hi
    refine .ifc _ _ _ ?_
    have:=VR.fptr (φ:=fun _=>none) (I:=CX W) [] 0 a.block a.off (fun _=>default) (fun i c h=>by simp at h) (fun i c h=>by simp at h) (fun i c h=>by simp at h)
    simpa using this
   | succ i=>simp at hi
  ·cases i with
   | zero=>simp at hi;subst hi;exact ⟨rfl,rfl⟩
   | succ i=>simp at hi
 intro g cs hg
 unfold Gl at hg
 split at hg
 ·rename_i hc
  injection hg with hg;subst hg
  simp at hc
  rcases hc with rfl | rfl
  ·exact hgo _ _ c1
  ·exact hgo _ _ c0
 ·cases hg
end Go.Ev
namespace Go.Ev
open Go
theorem ZQ (s t:ByteArray) (i:Nat):(s++t).get! (s.size+i)=t.get! i:=by
 have h:(s++t).data=s.data++t.data:=by simp
 show (s++t).data[s.size+i]! = t.data[i]!
 rw [h]
 show (s.data++t.data)[s.data.size+i]! = t.data[i]!
 rw [getElem!_def,getElem!_def,Array.getElem?_append_right (by omega),Nat.add_sub_cancel_left]
theorem Nk (s t:ByteArray) (i:Nat) (hi:i<s.size):(s++t).get! i=s.get! i:=by
 have h:(s++t).data=s.data++t.data:=by simp
 show (s++t).data[i]! = s.data[i]!
 rw [h,getElem!_def,getElem!_def,Array.getElem?_append_left hi]
theorem VK (s t:ByteArray) (i:Nat):Utf8.decode (s++t) (s.size+i)=Utf8.decode t i:=by
 have h:∀ k,(s++t).get! (s.size+i+k)=t.get! (i+k):=fun k=>by rw [Nat.add_assoc,ZQ]
 have e:∀ k,(s.size+i+k<(s++t).size)=(i+k<t.size):=fun k=>by rw [ByteArray.size_append,eq_iff_iff];omega
 simp only [Utf8.decode,h,e]
theorem Oz (s:ByteArray):∀ n m pos,s.size≤pos+n→s.size≤pos+m→BU s n pos=BU s m pos
 | 0,0,pos,_,_=>rfl
 | 0,m+1,pos,h,_=>by simp only [BU];rw [if_neg (by omega)]
 | n+1,0,pos,_,h=>by simp only [BU];rw [if_neg (by omega)]
 | n+1,m+1,pos,h1,h2=>by
  simp only [BU]
  have:=Hq s pos
  rw [Oz s n m (pos+(Utf8.decode s pos).2) (by omega) (by omega)]
theorem Oy (s t:ByteArray):∀ n pos,Cj (s++t) n (s.size+pos)=Cj t n pos
 | 0,pos=>rfl
 | n+1,pos=>by
  have e:(s.size+pos<(s++t).size)=(pos<t.size):=by rw [ByteArray.size_append,eq_iff_iff];omega
  have:=Oy s t n (pos+(Utf8.decode t pos).2)
  simp only [Cj,BU,e,VK] at this ⊢
  rw [Nat.add_assoc]
  split
  ·simp only [List.map_cons,this]
  ·rfl
def Wt (s:ByteArray) (rs:List Int):Prop:=∀ t,DP (s++t)=rs++DP t
theorem Vq:DP ⟨#[]⟩=[]:=rfl
theorem Uz (s:ByteArray):s++⟨#[]⟩=s:=by
 apply ByteArray.ext;simp
theorem VA (s:ByteArray):⟨#[]⟩++s=s:=by
 apply ByteArray.ext;simp
theorem Se (a b c:ByteArray):a++b++c=a++(b++c):=by
 apply ByteArray.ext;simp
theorem Wt.runes {s:ByteArray} {rs:List Int} (h:Wt s rs):DP s=rs:=by
 have:=h ⟨#[]⟩
 rwa [Uz,Vq,List.append_nil] at this
theorem Wt.nil:Wt ⟨#[]⟩ []:=fun t=>by rw [VA];rfl
theorem Wt.app {s t:ByteArray} {a b:List Int} (h:Wt s a) (g:Wt t b):Wt (s++t) (a++b):=fun u=>by
 rw [Se,h,g,List.append_assoc]
theorem Wt.rune {s:ByteArray} {r:Nat} (h0:0<s.size) (h:∀ t,Utf8.decode (s++t) 0=(r,s.size)):Wt s [(r:Int)]:=fun t=>by
 have hs:(s++t).size=s.size+t.size:=ByteArray.size_append
 have e:=Oy s t t.size 0
 have f:BU (s++t) ((s++t).size - 1) s.size=BU (s++t) t.size s.size:=Oz _ _ _ _ (by omega) (by omega)
 show (BU (s++t) (s++t).size 0).map _=_
 have:(s++t).size=(s++t).size - 1+1:=by omega
 rw [this,BU,if_pos (by omega),h]
 simp only [Nat.zero_add,List.map_cons,f]
 simp only [Cj,Nat.add_zero] at e
 rw [e];rfl
theorem Wt.one (c:UInt8) (hc:c.toNat<128):Wt ⟨#[c]⟩ [(c.toNat:Int)]:=Wt.rune (show 0<1 by omega) fun t=>by
 have h:(⟨#[c]⟩++t:ByteArray).get! (0+0)=c:=Nk ⟨#[c]⟩ t 0 (show 0<1 by omega)
 simp only [Utf8.decode,h]
 rw [if_pos hc];rfl
theorem Wt.two (c d:UInt8) (h1:c.toNat / 32=6) (h2:d.toNat / 64=2) (h3:128≤c.toNat % 32*64+d.toNat % 64):Wt ⟨#[c,d]⟩ [((c.toNat % 32*64+d.toNat % 64:Nat):Int)]:=Wt.rune (show 0<2 by omega) fun t=>by
 have a0:(⟨#[c,d]⟩++t:ByteArray).get! (0+0)=c:=Nk ⟨#[c,d]⟩ t 0 (by show 0<2;omega)
 have a1:(⟨#[c,d]⟩++t:ByteArray).get! (0+1)=d:=Nk ⟨#[c,d]⟩ t 1 (by show 1<2;omega)
 have hs:0+1<(⟨#[c,d]⟩++t:ByteArray).size:=by rw [ByteArray.size_append];show 0+1<2+_;omega
 simp only [Utf8.decode,a0,a1]
 rw [if_neg (by omega),if_pos (by simp [h1,h2];simpa using hs),if_pos h3];rfl
def NV:List UInt8→Option (List Int)
 | []=>some []
 | [c]=>if c.toNat<128 then some [(c.toNat:Int)] else none
 | c::d::r=>if c.toNat<128 then (NV (d::r)).map ((c.toNat:Int)::·) else
  if c.toNat / 32=6∧d.toNat / 64=2∧128≤c.toNat % 32*64+d.toNat % 64 then (NV r).map (((c.toNat % 32*64+d.toNat % 64:Nat):Int)::·) else none
theorem JN:∀ (l:List UInt8) (rs:List Int),NV l=some rs→Wt ⟨⟨l⟩⟩ rs
 | [],rs,h=>by simp [NV] at h;subst h;exact Wt.nil
 | [c],rs,h=>by
  simp only [NV] at h
  split at h
  ·rename_i hc;cases h;exact Wt.one c hc
  ·cases h
 | c::d::r,rs,h=>by
  simp only [NV] at h
  split at h
  ·rename_i hc
   cases hr:NV (d::r) with
   | none=>rw [hr] at h;cases h
   | some x =>
    rw [hr] at h;cases h
    have:=(Wt.one c hc).app (JN (d::r) x hr)
    have e:(⟨⟨c::d::r⟩⟩:ByteArray)=⟨#[c]⟩++⟨⟨d::r⟩⟩:=by apply ByteArray.ext;simp
    rw [e];exact this
  ·split at h
   ·rename_i hc
    cases hr:NV r with
    | none=>rw [hr] at h;cases h
    | some x =>
     rw [hr] at h;cases h
     have:=(Wt.two c d hc.1 hc.2.1 hc.2.2).app (JN r x hr)
     have e:(⟨⟨c::d::r⟩⟩:ByteArray)=⟨#[c,d]⟩++⟨⟨r⟩⟩:=by apply ByteArray.ext;simp
     rw [e];exact this
   ·cases h
def nd (q:List Int):Prop:=∀ x r,q=x::r→DZ x=false
theorem Wu:nd []:=fun _ _ h=>by cases h
theorem Qu {x:Int} {r:List Int} (h:DZ x=false):nd (x::r):=fun _ _ e=>by cases e;exact h
def Tx (rs:List Int) (l:List Tok):Prop:=nd rs∧∀ q,nd q→BA (rs++q) .plain=(BA q .plain).map (l++·)
theorem Tx.nil:Tx [] []:=⟨Wu,fun q _=>by cases h:BA q .plain<;>simp [h]⟩
theorem Tx.app {a b:List Int} {l m:List Tok} (h:Tx a l) (g:Tx b m):Tx (a++b) (l++m):=by
 refine ⟨fun x r e=>?_,fun q hq=>?_⟩
 ·cases a with
  | nil=>exact g.1 x r e
  | cons y a'=>cases e;exact h.1 _ a' rfl
 ·have hb:nd (b++q):=fun x r e=>by
   cases b with
   | nil=>exact hq x r e
   | cons y b'=>cases e;exact g.1 _ b' rfl
  rw [List.append_assoc,h.2 _ hb,g.2 q hq]
  cases BA q .plain<;>simp
theorem Tx.sign {x:Int} (h1:x≠32) (h2:DZ x=false) (h3:¬ (x=955∨x=960)) (h4:Cb x=true):Tx [x] [⟨x,0,0⟩]:=by
 refine ⟨Qu h2,fun q _=>?_⟩
 show BA (x::q) .plain=_
 simp only [BA,h2,h4]
 rw [if_neg h1,if_neg (by simp),if_neg h3,if_pos trivial];rfl
theorem Tx.named {s x:Int} (h1:s=955∨s=960) (h2:FL x=true):Tx [s,x] [⟨s,0,x⟩]:=by
 have hd:DZ s=false:=by rcases h1 with rfl | rfl<;>rfl
 refine ⟨Qu hd,fun q _=>?_⟩
 show BA (s::x::q) .plain=_
 simp only [BA,hd,h2]
 rw [if_neg (by omega),if_neg (by simp),if_pos h1,if_pos trivial];rfl
def PI (a:Int) (ds:List Int):Int:=ds.foldl (fun a d=>a*10+(d - 48)) a
theorem Ta (n:Nat):(1:Int)≤10 ^ n:=by
 have:(0:Int)<10 ^ n:=Int.pow_pos (by omega)
 omega
theorem Tb {a b:Nat} (h:a≤b):(10:Int) ^ a≤10 ^ b:=by
 obtain ⟨c,rfl⟩:=Nat.le.dest h
 rw [Int.pow_add]
 have:=Int.mul_le_mul_of_nonneg_left (Ta c) (show (0:Int)≤10 ^ a from by have:=Ta a;omega)
 omega
theorem Qa {q:List Int} (hq:nd q):∀ (ds:List Int) (a:Int),(∀ d ∈ ds,DZ d=true)→0≤a→(a+1)*10 ^ ds.length≤1000000000000→BA (ds++q) (.num a)=(BA q .plain).map (⟨48,PI a ds,0⟩::·)
 | [],a,_,_,_=>OU hq
 | d::ds,a,hd,ha,hb=>by
  have h1:=hd d (List.mem_cons_self ..)
  have h2:48≤d∧d≤57:=by simpa [DZ] using h1
  have hp:(1:Int)≤10 ^ ds.length:=Ta _
  rw [List.length_cons,Int.pow_succ,← Int.mul_assoc] at hb
  have hc:(a*10+(d - 48)+1)*10 ^ ds.length≤1000000000000:=by
   have:(a*10+(d - 48)+1)*10 ^ ds.length≤((a+1)*10)*10 ^ ds.length:=Int.mul_le_mul_of_nonneg_right (by omega) (by omega)
   have e:(a+1)*10 ^ ds.length*10=(a+1)*10*10 ^ ds.length:=by rw [Int.mul_assoc,Int.mul_comm (10 ^ ds.length) 10,Int.mul_assoc]
   omega
  have hx:a*10+(d - 48)≤9223372036854775807:=by
   have:(a*10+(d - 48)+1)*1≤(a*10+(d - 48)+1)*10 ^ ds.length:=Int.mul_le_mul_of_nonneg_left hp (by omega)
   omega
  have hv:=Qa hq ds (a*10+(d - 48)) (fun x hx=>hd x (List.mem_cons_of_mem _ hx)) (by omega) hc
  show BA (d::(ds++q)) (.num a)=_
  simp only [BA,h1,if_true]
  rw [if_neg (by omega),hv];rfl
theorem Tx.num {ds:List Int} (hd:∀ d ∈ ds,DZ d=true) (hne:ds≠[]) (hl:ds.length≤8):Tx (32::ds) [⟨48,PI 0 ds,0⟩]:=by
 cases ds with
 | nil=>exact absurd rfl hne
 | cons d ds =>
  have h1:=hd d (List.mem_cons_self ..)
  have h2:48≤d∧d≤57:=by simpa [DZ] using h1
  have hn:d≠32:=by omega
  have hb:(d - 48+1)*10 ^ ds.length≤1000000000000:=by
   have h8:ds.length≤7:=by simpa using hl
   have hp:(10:Int) ^ ds.length≤10 ^ 7:=Tb h8
   have:(d - 48+1)*10 ^ ds.length≤10*10 ^ ds.length:=Int.mul_le_mul_of_nonneg_right (by omega) (Int.le_of_lt (Int.pow_pos (by omega)))
   omega
  refine ⟨Qu rfl,fun q hq=>?_⟩
  have hv:=Qa hq ds (d - 48) (fun x hx=>hd x (List.mem_cons_of_mem _ hx)) (by omega) hb
  show BA (32::d::(ds++q)) .plain=_
  have e0:PI 0 (d::ds)=PI (d - 48) ds:=by simp [PI]
  simp only [BA,h1,if_true,hv,e0]
  rw [if_neg hn];rfl
theorem Tx.tok {rs:List Int} {l:List Tok} (h:Tx rs l):BA rs .plain=some l:=by
 have:=h.2 [] Wu
 simpa [BA] using this
end Go.Ev
namespace Go.Ev
open Go
def Up (T:Nat) (h h':H):Prop:=h.n≤h'.n∧∀ j,j<h.n→j≠T→h'.get j=h.get j
theorem Up.refl (T:Nat) (h:H):Up T h h:=⟨Nat.le_refl _,fun _ _ _=>rfl⟩
theorem Up.trans {T:Nat} {h g f:H} (a:Up T h g) (b:Up T g f):Up T h f:=⟨Nat.le_trans a.1 b.1,fun j h1 h2=>(b.2 j (Nat.lt_of_lt_of_le h1 a.1) h2).trans (a.2 j h1 h2)⟩
theorem Up.alloc {T:Nat} (h:H) (o:HObj):Up T h (h.alloc o):=⟨by simp [AP],fun j hj _=>by rw [AK,if_neg (by omega)]⟩
theorem Up.setT {T:Nat} (h:H) (o:HObj):Up T h (h.set T o):=⟨Nat.le_refl _,fun j _ hn=>by rw [AU,if_neg hn]⟩
theorem Vw.up {k T:Nat} {h h':H} {a:AV} {n:Nat} {cs:List AV} (v:Vw k h a n cs) (u:Up T h h') (ha:¬ a.isAt T):Vw k h' a n cs:=by
 obtain ⟨h1,h2,h3⟩:=v
 refine ⟨h1,h2,?_⟩
 rcases h3 with h3 | h3 | ⟨id,off,full,all,p,e1,e2,e3,e4,e5⟩
 ·exact .inl h3
 ·exact .inr (.inl h3)
 ·subst e1
  refine .inr (.inr ⟨id,off,full,all,p,rfl,Nat.lt_of_lt_of_le e2 u.1,?_,e4,e5⟩)
  rw [u.2 id e2 (fun e=>ha e)];exact e3
def TS (h:H) (T:Nat) (L:List Int):Prop:=∃ la,∃ at':Nat,h.get T=some (.cells [la,.int .i64 (at':Nat)] 0)∧T<h.n∧(∀ j,la.isAt j→j<T)∧Vw 1 h la L.length (L.flatMap i64c)∧at'≤L.length
theorem TS.up {h h':H} {T:Nat} {L:List Int} (v:TS h T L) (u:Up T h h') (hT:h'.get T=h.get T):TS h' T L:=by
 obtain ⟨la,a,h1,h2,h3,h4,h5⟩:=v
 exact ⟨la,a,hT.trans h1,Nat.lt_of_lt_of_le h2 u.1,h3,h4.up u (fun q=>Nat.lt_irrefl _ (h3 T q)),h5⟩
theorem TS.keep {h h':H} {T:Nat} {L:List Int} (v:TS h T L) (hn:h.n≤h'.n) (hj:∀ j,j≤T→h'.get j=h.get j):TS h' T L:=by
 obtain ⟨la,a,h1,h2,h3,⟨k1,k2,k3⟩,h5⟩:=v
 refine ⟨la,a,(hj T (Nat.le_refl _)).trans h1,by omega,h3,⟨k1,k2,?_⟩,h5⟩
 rcases k3 with k3 | k3 | ⟨id,off,full,all,p,e1,e2,e3,e4,e5⟩
 ·exact .inl k3
 ·exact .inr (.inl k3)
 ·subst e1
  refine .inr (.inr ⟨id,off,full,all,p,rfl,by omega,?_,e4,e5⟩)
  rw [hj id (Nat.le_of_lt (h3 id rfl))];exact e3
section
variable {bar:Nat} {h:H}
def HL (n hi:Int):Int:=if 0≤n∧n≤hi then n else if n.tmod (hi+1)<0 then n.tmod (hi+1)+hi+1 else n.tmod (hi+1)
theorem OV (n hi:Int) (h0:0≤hi):0≤HL n hi∧HL n hi≤hi:=by
 have a:=Int.tmod_lt_of_pos n (show 0<hi+1 by omega)
 have b:-(hi+1)<n.tmod (hi+1):=by
  have:=Int.tmod_lt_of_pos (-n) (show 0<hi+1 by omega)
  rw [Int.neg_tmod] at this;omega
 unfold HL
 split
 ·omega
 ·split<;>omega
theorem NU (n hi:Int) (h0:0≤hi) (h1:hi≤1099511627776):call tb prim Ci [.int .i64 n,.int .i64 0,.int .i64 hi] bar h=some (.int .i64 (HL n hi),h):=by
 refine AQ Mb (AZ rfl rfl (BJ ?_))
 have a:=Int.tmod_lt_of_pos n (show 0<hi+1 by omega)
 have b:-(hi+1)<n.tmod (hi+1):=by
  have:=Int.tmod_lt_of_pos (-n) (show 0<hi+1 by omega)
  rw [Int.neg_tmod] at this;omega
 have w1:IntKind.i64.wrap (hi+1)=hi+1:=BN (by omega) (by omega)
 have w0:IntKind.i64.wrap hi=hi:=BN (by omega) (by omega)
 have w2:IntKind.i64.wrap (n.tmod (hi+1))=n.tmod (hi+1):=BN (by omega) (by omega)
 have w3:IntKind.i64.wrap (n.tmod (hi+1)+hi)=n.tmod (hi+1)+hi:=BN (by omega) (by omega)
 have w4:IntKind.i64.wrap (n.tmod (hi+1)+hi+1)=n.tmod (hi+1)+hi+1:=BN (by omega) (by omega)
 have hz:hi+1≠0:=by omega
 by_cases c1:0≤n
 ·by_cases c2:n≤hi
  ·simp [f_engrambook_Within,AO,go_sem,AN,AM,AA,AE,AD,AC,AV.free.freeL,AV.free,AF,AH,c1,c2,HL]
  ·by_cases c3:n.tmod (hi+1)<0
   ·simp [f_engrambook_Within,AO,go_sem,AN,AM,AA,AE,AD,AC,AV.free.freeL,AV.free,AF,AH,c1,c2,c3,HL,w0,w1,w2,w3,w4,hz]
   ·simp [f_engrambook_Within,AO,go_sem,AN,AM,AA,AE,AD,AC,AV.free.freeL,AV.free,AF,AH,c1,c2,c3,HL,w0,w1,w2,w3,w4,hz]
 ·by_cases c3:n.tmod (hi+1)<0
  ·simp [f_engrambook_Within,AO,go_sem,AN,AM,AA,AE,AD,AC,AV.free.freeL,AV.free,AF,AH,c1,c3,HL,w0,w1,w2,w3,w4,hz]
  ·simp [f_engrambook_Within,AO,go_sem,AN,AM,AA,AE,AD,AC,AV.free.freeL,AV.free,AF,AH,c1,c3,HL,w0,w1,w2,w3,w4,hz]
theorem Bv {T:Nat} {L:List Int} (hv:TS h T L) (n:Int) (h1:1≤n) (h2:n≤1000000) (hb:bar≤T):∃ v h',call tb prim AR [.ptr T 0,.int .i64 n] bar h=some (.int .i64 v,h')∧0≤v∧v<n∧h'.n=h.n∧Up T h h'∧TS h' T L:=by
 obtain ⟨la,a,e1,e2,e3,e4,e5⟩:=hv
 have hn:¬ n<1:=by omega
 have e3':¬ la.isAt T:=fun q=>Nat.lt_irrefl _ (e3 T q)
 obtain ⟨r,h',hc,v,rfl,k⟩:=Aj (o:=call tb prim) (F:=f_engramkeep_Tape_Next) (bar:=bar) (h:=h) (args:=[.ptr T 0,.int .i64 n]) (P:=fun r h'=>∃ v,r=.int .i64 v∧0≤v∧v<n∧h'.n=h.n∧Up T h h'∧TS h' T L) rfl rfl (fun K hK=>by
  by_cases c:a<L.length
  ·have c':¬ (L.length:Int)≤(a:Int):=by omega
   have hl:(L.length:Int)≤9223372036854775807:=by have:=e4.2.1;omega
   have w1:IntKind.i64.wrap ((a:Int)+1)=(a:Int)+1:=BN (by omega) (by omega)
   have w2:IntKind.i64.wrap (a:Int)=(a:Int):=BN (by omega) (by omega)
   have hz:n≠0:=by omega
   have hu:Up T h (h.set T (.cells [la,.int .i64 ((a:Int)+1)] 0)):=Up.setT _ _
   simp [f_engramkeep_Tape_Next,AO,go_sem,AB,AG,e1,e4.len,c,c',hn,w1,w2,hb,IR]
   refine cw (e4.up hu e3') (Ag.refl _ _) c (fun v1=>?_)
   simp [go_sem,NU,hz]
   have r:=OV L[a] 1073741824 (by omega)
   have q:=Int.tmod_lt_of_pos (HL L[a] 1073741824) (show 0<n by omega)
   have q0:=Int.tmod_nonneg n r.1
   simp [go_sem,AN,AM,AA,AE,AD,AC,AV.free.freeL,AV.free,AF,AH]
   exact ⟨_,_,⟨rfl,rfl⟩,hK _ _ ⟨_,rfl,q0,q,rfl,hu,la,a+1,by rw [AU,if_pos rfl];rfl,e2,e3,e4.up hu e3',by omega⟩⟩
  ·have c':(L.length:Int)≤(a:Int):=by omega
   simp [f_engramkeep_Tape_Next,AO,go_sem,AG,e1,e4.len,c',AN,AM,AA,AE,AD,AC,AV.free.freeL,AV.free,AF,AH]
   exact ⟨_,_,⟨rfl,rfl⟩,hK _ _ ⟨0,rfl,by omega,by omega,rfl,Up.refl _ _,la,a,e1,e2,e3,e4,e5⟩⟩)
 exact ⟨v,h',AQ Jz hc,k⟩
end
end Go.Ev
namespace Go.Ev
open Go
def Hw (fs:List Fn):List Tok→Js→Option Js
 | [],s=>some s
 | t::r,s=>if (BC fs t s).1=0 then Hw fs r (BC fs t s).2 else none
theorem JT (fs:List Fn):∀ (a b:List Tok) (s:Js),Hw fs (a++b) s=(Hw fs a s).bind (Hw fs b)
 | [],b,s=>rfl
 | t::r,b,s=>by
  simp only [List.cons_append,Hw]
  split
  ·exact JT fs r b _
  ·rfl
def JB (s:Js):Prop:=-1≤s.h∧∀ p ∈ s.ps,0≤p.base
theorem TE {ps:List Jp} (h:∀ p ∈ ps,0≤p.base):0≤Bw ps:=by
 unfold Bw
 split
 ·rename_i p hp;exact h p (List.mem_of_getLast? hp)
 ·omega
theorem Tm {ps:List Jp} {k:Nat} {q:Jp} (h:∀ p ∈ ps,0≤p.base) (hq:0≤q.base):∀ p ∈ ps.set k q,0≤p.base:=fun p hp=>by
 rcases List.mem_or_eq_of_mem_set hp with h1 | rfl
 ·exact h p h1
 ·exact hq
theorem NZ {ps:List Jp} (h:∀ p ∈ ps,0≤p.base):∀ p ∈ ps.dropLast,0≤p.base:=fun p hp=>h p (CR hp)
theorem TG {sg:Int} {s:Js} (h:JB s) (h63:sg=63∨sg=91→0≤s.h):JB (Al sg s).2:=by
 obtain ⟨h1,h2⟩:=h
 unfold Al
 split
 ·rename_i c
  refine ⟨h1,fun p hp=>?_⟩
  rcases List.mem_append.mp hp with a | a
  ·exact h2 p a
  ·simp at a;subst a;exact h63 c
 split
 ·split
  ·exact ⟨h1,h2⟩
  ·rename_i p hp
   have:=h2 p (List.mem_of_getLast? hp)
   exact ⟨by show -1≤p.base;omega,Tm h2 this⟩
 split
 ·split
  ·exact ⟨h1,h2⟩
  ·rename_i p hp
   have:=h2 p (List.mem_of_getLast? hp)
   split
   ·split
    ·exact ⟨h1,h2⟩
    ·exact ⟨by show -1≤max s.h p.fin;omega,NZ h2⟩
   ·split
    ·exact ⟨h1,h2⟩
    ·exact ⟨by show -1≤p.base;omega,NZ h2⟩
 split
 ·split
  ·exact ⟨h1,h2⟩
  ·rename_i p hp
   have:=h2 p (List.mem_of_getLast? hp)
   split
   ·exact ⟨h1,h2⟩
   ·exact ⟨by show -1≤ite _ _ _;split<;>omega,NZ h2⟩
 split
 ·split
  ·exact ⟨h1,h2⟩
  ·split
   ·exact ⟨h1,h2⟩
   ·rename_i k _ p hp
    split
    ·exact ⟨h1,h2⟩
    ·exact ⟨by show -1≤-1;omega,Tm h2 (h2 p (List.mem_of_getElem? hp))⟩
 split
 ·exact ⟨by show -1≤-1;omega,h2⟩
 ·exact ⟨h1,h2⟩
theorem Iw {fs:List Fn} {t:Tok} {s:Js} (h:(BC fs t s).1=0):(s.h=-1∧Cf t.sign=true∧BC fs t s=Al t.sign s) ∨
  (s.h≠-1∧(Am fs t.sign t.name).1≤s.h - Bw s.ps∧s.h - (Am fs t.sign t.name).1+(Am fs t.sign t.name).2.1≤64∧(Am fs t.sign t.name).2.2=true∧BC fs t s=Al t.sign ⟨s.h+((Am fs t.sign t.name).2.1 - (Am fs t.sign t.name).1),s.ps⟩):=by
 unfold BC at h ⊢
 split at h
 ·simp at h
 rename_i c1
 split at h
 ·simp at h
 rename_i c2
 rw [if_neg c1,if_neg c2]
 split at h
 ·rename_i c3
  rw [if_pos c3]
  refine .inl ⟨c3,?_,rfl⟩
  cases he:Cf t.sign with
  | true=>rfl
  | false=>exact absurd ⟨c3,he⟩ c1
 ·rename_i c3
  rw [if_neg c3]
  split at h
  ·simp at h
  ·rename_i c4
   rw [if_neg c4]
   refine .inr ⟨c3,by omega,by omega,by simpa using c2,rfl⟩
theorem Zl {fs:List Fn} {t:Tok} {s:Js} (hb:JB s) (h:(BC fs t s).1=0):JB (BC fs t s).2:=by
 have r:=Ih fs t.sign t.name
 have b:=TE hb.2
 rcases Iw h with ⟨a,e,h1⟩ | ⟨a,c1,c2,_,h1⟩
 ·rw [h1]
  refine TG hb fun e2=>?_
  rcases e2 with e2 | e2<;>rw [e2] at e<;>simp [Cf] at e
 ·rw [h1]
  exact TG ⟨by show -1≤s.h+_;omega,hb.2⟩ fun _=>by show 0≤s.h+_;omega
theorem Ky {fs:List Fn}:∀ {l:List Tok} {s s':Js},JB s→Hw fs l s=some s'→JB s'
 | [],s,s',hb,h=>by cases h;exact hb
 | t::r,s,s',hb,h=>by
  simp only [Hw] at h
  split at h
  ·rename_i c;exact Ky (Zl hb c) h
  ·cases h
def Alive (l:List Tok):Prop:=∀ fs s s',JB s→Hw fs l s=some s'→0≤s'.h
def Jc (sg:Int):Bool:=decide (sg≠58∧sg≠59∧sg≠93∧sg≠126∧sg≠161)
theorem Alive.plain (l:List Tok) {t:Tok} (ht:Jc t.sign=true):Alive (l++[t]):=fun fs s s' hb h=>by
 rw [JT] at h
 cases h1:Hw fs l s with
 | none=>rw [h1] at h;cases h
 | some s1 =>
  rw [h1] at h
  simp only [Option.bind_some,Hw] at h
  have hb1:=Ky hb h1
  split at h
  ·rename_i c
   cases h
   have hp:t.sign≠58∧t.sign≠59∧t.sign≠93∧t.sign≠126∧t.sign≠161:=by simpa [Jc] using ht
   have r:=Ih fs t.sign t.name
   have b:=TE hb1.2
   rcases Iw c with ⟨_,e,_⟩ | ⟨a,c1,c2,_,h2⟩
   ·simp [Cf] at e;omega
   ·rw [h2]
    unfold Al
    split
    ·show 0≤s1.h+_;omega
    ·rw [if_neg (by omega),if_neg (by omega),if_neg (by omega),if_neg (by omega),if_neg (by omega)]
     show 0≤s1.h+_;omega
  ·cases h
theorem Alive.endIf (l:List Tok) {c:List Tok} (hc:Alive c) {t:Tok} (ht:t.sign=59):Alive (l++c++[t]):=fun fs s s' hb h=>by
 rw [JT,JT] at h
 cases h1:Hw fs l s with
 | none=>rw [h1] at h;cases h
 | some s1 =>
  rw [h1] at h
  have hb1:=Ky hb h1
  cases h2:Hw fs c s1 with
  | none=>simp [h2] at h
  | some s2 =>
   have h0:=hc fs s1 s2 hb1 h2
   have hb2:=Ky hb1 h2
   simp only [Option.bind_some,h2,Hw] at h
   split at h
   ·rename_i c
    cases h
    have hz:Am fs t.sign t.name=(0,0,true):=by rw [ht];exact T8 (by decide)
    rcases Iw c with ⟨e,_,_⟩ | ⟨a,c1,c2,_,h3⟩
    ·omega
    ·rw [h3,hz,ht]
     simp only [Int.sub_self,Int.add_zero]
     unfold Al
     rw [if_neg (by omega),if_neg (by omega),if_pos rfl]
     split
     ·exact h0
     ·rename_i p hp
      have:=hb2.2 p (List.mem_of_getLast? hp)
      split
      ·split
       ·exact h0
       ·show 0≤max s2.h p.fin;omega
      ·split
       ·exact h0
       ·exact this
   ·cases h
end Go.Ev
namespace Go.Ev
open Go
theorem Uc {x:Int} (h0:0≤x) (h1:x<128):Utf8.encode x=⟨#[UInt8.ofNat x.toNat]⟩:=by
 have hv:Utf8.valid x=true:=by simp [Utf8.valid];omega
 simp only [Utf8.encode,hv,if_true]
 rw [if_pos (by omega)]
theorem GM {x:Int} (h0:0≤x) (h1:x<128):Wt (Utf8.encode x) [x]∧(Utf8.encode x).size=1:=by
 rw [Uc h0 h1]
 have e:(UInt8.ofNat x.toNat).toNat=x.toNat:=by rw [UInt8.toNat_ofNat'];omega
 have:=Wt.one (UInt8.ofNat x.toNat) (by omega)
 rw [e,Int.toNat_of_nonneg h0] at this
 exact ⟨this,rfl⟩
section
variable {bar:Nat} {h:H}
theorem NX:∀ (k:Nat) (n:Int),0≤n→n<10 ^ (k+1)→k≤6→∀ (bar:Nat) (h:H),∃ s ds,call tb prim Bh [.int .i64 n] bar h=some (.str s,h)∧Wt s ds∧(∀ d ∈ ds,DZ d=true)∧ds≠[]∧ds.length≤k+1∧s.size=ds.length:=by
 have one:∀ n:Int,0≤n→n<10→∀ (bar:Nat) (h:H),call tb prim Bh [.int .i64 n] bar h=some (.str (Utf8.encode (48+n)),h):=fun n h0 h1 bar h=>by
  refine AQ IG (AZ rfl rfl (BJ ?_))
  have c:¬ 10≤n:=by omega
  have w1:IntKind.i64.wrap (48+n)=48+n:=BN (by omega) (by omega)
  have w2:IntKind.i32.wrap (48+n)=48+n:=Mp (by omega) (by omega)
  simp [f_engramkeep_digits,AO,go_sem,AN,AM,AA,AE,AD,AC,AV.free.freeL,AV.free,AF,AH,c,w1,w2]
 intro k
 induction k with
 | zero =>
  intro n h0 h1 _ bar h
  have h1:n<10:=by simpa using h1
  have w:=GM (x:=48+n) (by omega) (by omega)
  exact ⟨_,_,one n h0 h1 bar h,w.1,by simp [DZ];omega,by simp,by simp,by rw [w.2];rfl⟩
 | succ k ih =>
  intro n h0 h1 hk bar h
  by_cases c:10≤n
  ·have h2:n.tdiv 10<10 ^ (k+1):=by
    rw [Int.tdiv_eq_ediv_of_nonneg h0]
    rw [Int.pow_succ] at h1
    exact Int.ediv_lt_of_lt_mul (by omega) h1
   have h3:0≤n.tdiv 10:=Int.tdiv_nonneg h0 (by omega)
   have h4:n.tmod 10<10:=Int.tmod_lt_of_pos n (by omega)
   have h5:0≤n.tmod 10:=Int.tmod_nonneg 10 h0
   have hbig:n<100000000:=by
    have:(10:Int) ^ (k+1+1)≤10 ^ 8:=Tb (by omega)
    omega
   obtain ⟨s,ds,hc,hw,hd,hne,hl,hsz⟩:=ih (n.tdiv 10) h3 h2 (by omega) h.n h
   have hx:n.tdiv 10≤n:=Int.tdiv_le_self 10 h0
   have w:=GM (x:=48+n.tmod 10) (by omega) (by omega)
   have w0:IntKind.i64.wrap (n.tdiv 10)=n.tdiv 10:=BN (by omega) (by omega)
   have w1:IntKind.i64.wrap (48+n.tmod 10)=48+n.tmod 10:=BN (by omega) (by omega)
   have w2:IntKind.i32.wrap (48+n.tmod 10)=48+n.tmod 10:=Mp (by omega) (by omega)
   refine ⟨s++Utf8.encode (48+n.tmod 10),ds++[48+n.tmod 10],?_,hw.app w.1,fun d hd'=>?_,by simp,by simp;omega,by rw [ByteArray.size_append,w.2,hsz];simp⟩
   ·refine AQ IG (AZ rfl rfl (BJ ?_))
    have hs:s.size+(Utf8.encode (48+n.tmod 10)).size≤9223372036854775807:=by rw [w.2];omega
    simp [f_engramkeep_digits,AO,go_sem,AN,AM,AA,AE,AD,AC,AV.free.freeL,AV.free,AF,AH,c,w0,w1,w2,hc,Dp,hs]
   ·rcases List.mem_append.mp hd' with a | a
    ·exact hd d a
    ·simp at a;subst a;simp [DZ];omega
  ·have h1:n<10:=by omega
   have w:=GM (x:=48+n) (by omega) (by omega)
   exact ⟨_,_,one n h0 h1 bar h,w.1,by simp [DZ];omega,by simp,by simp,by rw [w.2];rfl⟩
theorem TC (s:ByteArray) (hs:s.size≤1000000):∃ b,call tb prim DB [.str s] bar h=some (.bool b,h):=by
 obtain ⟨r,hc,b,rfl⟩:=CG (o:=call tb prim) (F:=f_engramkeep_halts) (bar:=bar) (h:=h) (args:=[.str s]) (P:=fun r=>∃ b,r=.bool b) rfl rfl (fun K hK=>by
  by_cases c:2<s.size
  ·have c':(2:Int)<(s.size:Int):=by omega
   have w:IntKind.i64.wrap ((s.size:Int) - 2)=((s.size - 2:Nat):Int):=by rw [BN (by omega) (by omega)];omega
   have e1:s.size - 2≤s.size:=by omega
   have e2:(0:Int)≤((s.size - 2:Nat):Int):=by omega
   simp [f_engramkeep_halts,AO,go_sem,Bf,AA,AE,AD,AV.free.freeL,AF,c,c',w,BY,Ap,AY,BL,e1,e2,Dp,AC,AV.free]
   exact hK _ ⟨_,rfl⟩
  ·have c':¬ (2:Int)<(s.size:Int):=by omega
   simp [f_engramkeep_halts,AO,go_sem,Bf,AA,AE,AD,AV.free.freeL,AF,c,c',AC,AV.free]
   exact hK _ ⟨_,rfl⟩)
 exact ⟨b,AQ NL hc⟩
theorem Uk (s:ByteArray) (hs:s.size≤1000000):∃ s',call tb prim DS [.str s] bar h=some (.str s',h)∧(s'=s∨s'=⟨#[]⟩):=by
 obtain ⟨b,hb⟩:=TC (bar:=h.n) (h:=h) s hs
 cases b with
 | true =>
  refine ⟨⟨#[]⟩,AQ Ii (AZ rfl rfl (BJ ?_)),.inr rfl⟩
  simp [f_engramkeep_live,AO,go_sem,AN,AM,AA,AE,AD,AC,AV.free.freeL,AV.free,AF,AH,hb]
 | false =>
  refine ⟨s,AQ Ii (AZ rfl rfl (BJ ?_)),.inl rfl⟩
  simp [f_engramkeep_live,AO,go_sem,AN,AM,AA,AE,AD,AC,AV.free.freeL,AV.free,AF,AH,hb]
theorem aw (n k:Int) (hk:k≤1000000):call tb prim FJ [.int .i64 n,.int .i64 k] bar h=some (.int .i64 ((HL n 1048576).tmod (max k 1)),h):=by
 have r:=OV n 1048576 (by omega)
 refine AQ PX (AZ rfl rfl (BJ ?_))
 by_cases c:k<1
 ·have e:max k 1=1:=by omega
  simp [f_engramkeep_at,AO,go_sem,AN,AM,AA,AE,AD,AC,AV.free.freeL,AV.free,AF,AH,NU,c,e]
 ·have e:max k 1=k:=by omega
  have hz:k≠0:=by omega
  simp [f_engramkeep_at,AO,go_sem,AN,AM,AA,AE,AD,AC,AV.free.freeL,AV.free,AF,AH,NU,c,e,hz]
theorem PD:call tb prim Dv [] bar h=some (.fz 1 5 [.int .i32 102,.int .i32 103,.int .i32 945,.int .i32 104,.int .i32 19990] true,h):=by
 refine AQ NK (AZ rfl rfl (BJ ?_))
 simp [f_engramkeep_Names,AO,go_sem,AB,AN,AM,AA,AE,AD,AC,AV.free.freeL,AV.free,AF,AH,AX,Af,AL]
end
end Go.Ev
namespace Go.Ev
open Go
theorem Ej (l:List UInt8):(ByteArray.mk l.toArray).size=l.length:=rfl
theorem CO {x y:ByteArray} (h:x.size+y.size≤9223372036854775807):Dp .add x y=some (.str (x++y)):=by
 simp only [Dp];rw [if_pos h]
def Code (s:ByteArray) (l:List Tok) (n:Nat):Prop:=∃ rs,Wt s rs∧Tx rs l∧s.size≤n
theorem Code.app {a b:ByteArray} {l m:List Tok} {n k:Nat} (h:Code a l n) (g:Code b m k):Code (a++b) (l++m) (n+k):=by
 obtain ⟨r1,w1,x1,s1⟩:=h
 obtain ⟨r2,w2,x2,s2⟩:=g
 exact ⟨_,w1.app w2,x1.app x2,by rw [ByteArray.size_append];omega⟩
theorem Code.le {s:ByteArray} {l:List Tok} {n k:Nat} (h:Code s l n) (hn:n≤k):Code s l k:=by
 obtain ⟨r,w,x,s⟩:=h;exact ⟨r,w,x,by omega⟩
theorem Code.nil:Code ⟨#[]⟩ [] 0:=⟨[],Wt.nil,Tx.nil,Nat.le_refl _⟩
def Dz (x:Int):Tok:=⟨x,0,0⟩
theorem Tx.signs:∀ (rs:List Int),(∀ x ∈ rs,x≠32∧DZ x=false∧¬ (x=955∨x=960)∧Cb x=true)→Tx rs (rs.map Dz)
 | [],_=>Tx.nil
 | x::r,h=>by
  have a:=h x (List.mem_cons_self ..)
  exact (Tx.sign a.1 a.2.1 a.2.2.1 a.2.2.2).app (Tx.signs r fun y hy=>h y (List.mem_cons_of_mem _ hy))
def Vt (x:Int):Bool:=decide (x≠32)&&!DZ x&&decide (¬ (x=955∨x=960))&&Cb x
theorem Code.lit {l:List UInt8} {rs:List Int} (h:NV l=some rs) (hs:rs.all Vt=true):Code ⟨l.toArray⟩ (rs.map Dz) l.length :=
 ⟨rs,JN l rs h,Tx.signs rs fun x hx=>by
  have:=List.all_eq_true.mp hs x hx
  simp [Vt] at this;exact ⟨this.1.1.1,this.1.1.2,by omega,this.2⟩,Nat.le_refl _⟩
theorem Code.one (l:List UInt8) (x:Int) {n:Nat} (h:NV l=some [x]) (hs:Vt x=true) (hn:l.length≤n):Code ⟨l.toArray⟩ ([]++[Dz x]) n:=(Code.lit (rs:=[x]) h (by simp [hs])).le hn
theorem Code.num {s:ByteArray} {ds:List Int} (w:Wt s ds) (hd:∀ d ∈ ds,DZ d=true) (hne:ds≠[]) (hl:ds.length≤8):Code (⟨#[32]⟩++s) [⟨48,PI 0 ds,0⟩] (1+s.size) :=
 ⟨32::ds,(Wt.one 32 (by decide)).app w,Tx.num hd hne hl,by rw [ByteArray.size_append];exact Nat.le_refl _⟩
theorem Code.letter {x:Int} (h:65≤x∧x≤90∨97≤x∧x≤122):Code (Utf8.encode x) [Dz x] 1:=by
 have w:=GM (x:=x) (by omega) (by omega)
 refine ⟨[x],w.1,Tx.sign (by omega) (by simp [DZ];omega) (by omega) ?_,by rw [w.2];exact Nat.le_refl _⟩
 simp [Cb];left;omega
theorem OC {x:Int} (h:65≤x∧x≤90∨97≤x∧x≤122):Jc (Dz x).sign=true:=decide_eq_true (by show x≠58∧x≠59∧x≠93∧x≠126∧x≠161;omega)
def Val (s:ByteArray) (n:Nat):Prop:=∃ l,Code s l n∧Alive l
theorem Val.le {s:ByteArray} {n k:Nat} (h:Val s n) (hn:n≤k):Val s k:=by obtain ⟨l,c,a⟩:=h;exact ⟨l,c.le hn,a⟩
def vB:Nat→Nat
 | 0=>5
 | d+1=>3*vB d+3
theorem Ha {a b : Nat} (h : a ≤ b) : vB a ≤ vB b := by
  induction b with
  | zero => have : a = 0 := by omega
            subst this; exact Nat.le_refl _
  | succ b ih =>
    by_cases c : a = b + 1
    · subst c; exact Nat.le_refl _
    · have := ih (by omega); simp only [vB]; omega
theorem Mj (a:Nat):5≤vB a:=Ha (a:=0) (by omega)
theorem Val.plain {s t:ByteArray} {l m:List Tok} {n k:Nat} {x:Tok} (h:Code s l n) (g:Code t (m++[x]) k) (hx:Jc x.sign=true):Val (s++t) (n+k) :=
 ⟨_,h.app g,by rw [← List.append_assoc];exact Alive.plain _ hx⟩
theorem Val.cond {s1 s2 s3:ByteArray} {l1 l2 l3:List Tok} {n:Nat} (c1:Code s1 l1 n) (c2:Code s2 l2 n) (c3:Code s3 l3 n) (a3:Alive l3):Val (s1++⟨#[63]⟩++s2++⟨#[58]⟩++s3++⟨#[59]⟩) (3*n+3):=by
 have q1:Code ⟨#[63]⟩ [Dz 63] 1:=Code.one [63] 63 rfl rfl (by simp)
 have q2:Code ⟨#[58]⟩ [Dz 58] 1:=Code.one [58] 58 rfl rfl (by simp)
 have q3:Code ⟨#[59]⟩ [Dz 59] 1:=Code.one [59] 59 rfl rfl (by simp)
 have k1:=c1.app q1
 have k2:=k1.app c2
 have k3:=k2.app q2
 have k4:=k3.app c3
 have k5:=k4.app q3
 have a:Alive (l1++[Dz 63]++l2++[Dz 58]++l3++[Dz 59]):=Alive.endIf _ a3 rfl
 exact ⟨_,k5.le (by omega),a⟩
theorem QJ {P:ByteArray→Prop} (l:List ByteArray) (hl:∀ x ∈ l,P x) {v:Int} (h0:0≤v) (h1:v<l.length):∃ x,(l.map AV.str)[v.toNat]? = some (.str x)∧P x:=by
 have hn:v.toNat<l.length:=by omega
 refine ⟨l[v.toNat],?_,hl _ (List.getElem_mem hn)⟩
 rw [List.getElem?_map,List.getElem?_eq_getElem hn];rfl
theorem dS {P:Int→Prop} (l:List Int) (hl:∀ x ∈ l,P x) {v:Int} (h0:0≤v) (h1:v<l.length):∃ x,(l.map (AV.int .i64))[v.toNat]? = some (.int .i64 x)∧P x:=by
 have hn:v.toNat<l.length:=by omega
 refine ⟨l[v.toNat],?_,hl _ (List.getElem_mem hn)⟩
 rw [List.getElem?_map,List.getElem?_eq_getElem hn];rfl
def SU (fs:List Fn):Prop:=∀ f ∈ fs,(f.name=102∨f.name=103∨f.name=945)∧0≤f.args∧f.args≤2
theorem Code.call {x:Int} (h:x=102∨x=103∨x=945):Code (⟨#[206,187]⟩++Utf8.encode x) [⟨955,0,x⟩] 4:=by
 have w:Wt (Utf8.encode x) [x]∧(Utf8.encode x).size≤2:=by
  rcases h with rfl | rfl | rfl
  ·have:=GM (x:=102) (by omega) (by omega);exact ⟨this.1,by omega⟩
  ·have:=GM (x:=103) (by omega) (by omega);exact ⟨this.1,by omega⟩
  ·exact ⟨Wt.two 206 177 (by decide) (by decide) (by decide),by decide⟩
 have n:FL x=true:=by rcases h with rfl | rfl | rfl<;>rfl
 exact ⟨[955]++[x],(Wt.two 206 187 (by decide) (by decide) (by decide)).app w.1,Tx.named (.inl rfl) n,by rw [ByteArray.size_append];have:=w.2;have:(ByteArray.mk #[206,187]).size=2:=rfl;omega⟩
theorem Code.pi:Code ⟨#[207,128,113]⟩ [⟨960,0,113⟩] 3 :=
 ⟨[960,113],JN [207,128,113] _ rfl,Tx.named (.inr rfl) rfl,Nat.le_refl _⟩
theorem TS.alloc {h:H} {T:Nat} {L:List Int} (v:TS h T L) (o:HObj):TS (h.alloc o) T L:=v.up (Up.alloc _ _) (by obtain ⟨_,_,_,e,_⟩:=v;rw [AK,if_neg (by omega)])
theorem TS.lt {h:H} {T:Nat} {L:List Int} (v:TS h T L):T<h.n:=by obtain ⟨_,_,_,e,_⟩:=v;exact e
end Go.Ev
namespace Go.Ev
open Go
section
variable {bar T:Nat} {h h1:H} {fa:AV} {fs:List Fn} {L:List Int} {deep k:Int}
def KZ (L:List Int) (deep:Int) (bar T:Nat) (h:H) (fa:AV):Prop:=∃ s h',call tb prim Ak [.ptr T 0,.int .i64 deep,fa] bar h=some (.str s,h')∧Val s (vB deep.toNat)∧Up T h h'∧TS h' T L
def It (L:List Int) (fs:List Fn) (deep:Int):Prop:=∀ (bar T:Nat) (h:H) (fa:AV),bar≤T→TS h T L→FV h fa fs→¬ fa.isAt T→KZ L deep bar T h fa
theorem Ik (hb:bar≤T) (hw:∀ K:AV→H→Prop,(∀ s h',Val s (vB deep.toNat)→Up T h h'→TS h' T L→K (.str s) h')→El (call tb prim) bar f_engramkeep_Tape_value.body [] (AO [.ptr T 0,.int .i64 deep,fa]) h (AM f_engramkeep_Tape_value bar K)):KZ L deep bar T h fa:=by
 obtain ⟨r,h',hc,s,rfl,k⟩:=Aj (o:=call tb prim) (F:=f_engramkeep_Tape_value) (bar:=bar) (h:=h) (args:=[.ptr T 0,.int .i64 deep,fa]) (P:=fun r h'=>∃ s,r=.str s∧Val s (vB deep.toNat)∧Up T h h'∧TS h' T L) rfl rfl (fun K hK=>hw K fun s h' a b c=>hK _ _ ⟨s,rfl,a,b,c⟩)
 exact ⟨s,h',AQ Jl hc,k⟩
theorem WG (hb:bar≤T) (e1:call tb prim AR [.ptr T 0,.int .i64 14] bar h=some (.int .i64 k,h1)) (u1:Up T h h1) (t1:TS h1 T L) (hc:deep≤0∨k<3):KZ L deep bar T h fa:=by
 refine Ik hb fun K hK=>?_
 obtain ⟨v,h2,e2,v0,v1,_,u2,t2⟩:=Bv (bar:=bar) (t1.alloc (.cells [.int .i64 0,.int .i64 1,.int .i64 2,.int .i64 3,.int .i64 8,.int .i64 60,.int .i64 64,.int .i64 255,.int .i64 1000,.int .i64 7] 0)) 10 (by omega) (by omega) hb
 have hT:=t1.lt
 have hg:h2.get h1.n=some (.cells [.int .i64 0,.int .i64 1,.int .i64 2,.int .i64 3,.int .i64 8,.int .i64 60,.int .i64 64,.int .i64 255,.int .i64 1000,.int .i64 7] 0):=by
  rw [u2.2 h1.n (by simp [AP]) (by omega),AK,if_pos rfl]
 obtain ⟨x,hx,x0,x1⟩:=dS (P:=fun x=>0≤x∧x<10 ^ 4) [0,1,2,3,8,60,64,255,1000,7] (by decide) v0 v1
 have hx':([.int .i64 0,.int .i64 1,.int .i64 2,.int .i64 3,.int .i64 8,.int .i64 60,.int .i64 64,.int .i64 255,.int .i64 1000,.int .i64 7]:List AV)[v.toNat]? = some (.int .i64 x):=hx
 obtain ⟨s,ds,e3,w,hd,hne,hl,hsz⟩:=NX 3 x x0 x1 (by omega) bar h2
 have hs:1+s.size≤9223372036854775807:=by omega
 have hk:=hK (⟨#[32]⟩++s) h2 ⟨_,(Code.num w hd hne (by omega)).le (by have:=Mj deep.toNat;omega),Alive.plain [] (show Jc 48=true from rfl)⟩ (u1.trans ((Up.alloc _ _).trans u2)) t2
 have hb1:=e1
 by_cases c:deep≤0
 ·simp [f_engramkeep_Tape_value,AO,go_sem,hb1,c,AX,Af,AL,e2,AJ,v0,v1]
  simp [-getElem?_pos,go_sem,hg,hx',e3,CO,Ej,hs]
  simp [go_sem,AN,AM,AA,AE,AD,AC,AV.free.freeL,AV.free,AF,AH]
  exact ⟨_,_,⟨rfl,rfl⟩,hk⟩
 ·have c3:k<3:=by omega
  simp [f_engramkeep_Tape_value,AO,go_sem,hb1,c,c3,AX,Af,AL,e2,AJ,v0,v1]
  simp [-getElem?_pos,go_sem,hg,hx',e3,CO,Ej,hs]
  simp [go_sem,AN,AM,AA,AE,AD,AC,AV.free.freeL,AV.free,AF,AH]
  exact ⟨_,_,⟨rfl,rfl⟩,hk⟩
theorem dy (hb:bar≤T) (e1:call tb prim AR [.ptr T 0,.int .i64 14] bar h=some (.int .i64 k,h1)) (u1:Up T h h1) (t1:TS h1 T L) (hd:0<deep) (hc:¬ k<3) (hc2:k<6):KZ L deep bar T h fa:=by
 refine Ik hb fun K hK=>?_
 obtain ⟨v,h2,e2,v0,v1,_,u2,t2⟩:=Bv (bar:=bar) t1 4 (by omega) (by omega) hb
 have w1:IntKind.i64.wrap (97+v)=97+v:=BN (by omega) (by omega)
 have w2:IntKind.i32.wrap (97+v)=97+v:=Mp (by omega) (by omega)
 have hk:=hK (Utf8.encode (97+v)) h2 ⟨_,(Code.letter (by omega)).le (by have:=Mj deep.toNat;omega),Alive.plain [] (t:=Dz (97+v)) (OC (by omega))⟩ (u1.trans u2) t2
 have hb1:=e1
 have c:¬ deep≤0:=by omega
 simp [f_engramkeep_Tape_value,AO,go_sem,hb1,c,hc,hc2,e2,w1,w2]
 simp [go_sem,AN,AM,AA,AE,AD,AC,AV.free.freeL,AV.free,AF,AH]
 exact ⟨_,_,⟨rfl,rfl⟩,hk⟩
theorem dz (hb:bar≤T) (e1:call tb prim AR [.ptr T 0,.int .i64 14] bar h=some (.int .i64 k,h1)) (u1:Up T h h1) (t1:TS h1 T L) (hd:0<deep) (hd2:deep≤9) (hv:FV h fa fs) (hfa:¬ fa.isAt T) (ih:It L fs (deep - 1)) (hc:¬ k<6) (hc2:k<9):KZ L deep bar T h fa:=by
 refine Ik hb fun K hK=>?_
 obtain ⟨v,h2,e2,v0,v1,_,u2,t2⟩:=Bv (bar:=bar) (t1.alloc (.cells [.str ⟨#[43]⟩,.str ⟨#[45]⟩,.str ⟨#[42]⟩,.str ⟨#[38]⟩,.str ⟨#[124]⟩,.str ⟨#[94]⟩,.str ⟨#[60]⟩,.str ⟨#[61]⟩,.str ⟨#[47]⟩,.str ⟨#[37]⟩,.str ⟨#[194,171]⟩,.str ⟨#[194,187]⟩] 0)) 12 (by omega) (by omega) hb
 have hT:=t1.lt
 have hg:h2.get h1.n=some (.cells [.str ⟨#[43]⟩,.str ⟨#[45]⟩,.str ⟨#[42]⟩,.str ⟨#[38]⟩,.str ⟨#[124]⟩,.str ⟨#[94]⟩,.str ⟨#[60]⟩,.str ⟨#[61]⟩,.str ⟨#[47]⟩,.str ⟨#[37]⟩,.str ⟨#[194,171]⟩,.str ⟨#[194,187]⟩] 0):=by
  rw [u2.2 h1.n (by simp [AP]) (by omega),AK,if_pos rfl]
 obtain ⟨x,hx,y,hy,py⟩:=QJ (P:=fun x=>∃ y,Code x ([]++[y]) 2∧Jc y.sign=true) [⟨#[43]⟩,⟨#[45]⟩,⟨#[42]⟩,⟨#[38]⟩,⟨#[124]⟩,⟨#[94]⟩,⟨#[60]⟩,⟨#[61]⟩,⟨#[47]⟩,⟨#[37]⟩,⟨#[194,171]⟩,⟨#[194,187]⟩] (by
  intro x hx;simp only [List.mem_cons,List.not_mem_nil,or_false] at hx
  rcases hx with rfl | rfl | rfl | rfl | rfl | rfl | rfl | rfl | rfl | rfl | rfl | rfl
  ·exact ⟨Dz 43,Code.one [43] 43 rfl rfl (by simp),rfl⟩
  ·exact ⟨Dz 45,Code.one [45] 45 rfl rfl (by simp),rfl⟩
  ·exact ⟨Dz 42,Code.one [42] 42 rfl rfl (by simp),rfl⟩
  ·exact ⟨Dz 38,Code.one [38] 38 rfl rfl (by simp),rfl⟩
  ·exact ⟨Dz 124,Code.one [124] 124 rfl rfl (by simp),rfl⟩
  ·exact ⟨Dz 94,Code.one [94] 94 rfl rfl (by simp),rfl⟩
  ·exact ⟨Dz 60,Code.one [60] 60 rfl rfl (by simp),rfl⟩
  ·exact ⟨Dz 61,Code.one [61] 61 rfl rfl (by simp),rfl⟩
  ·exact ⟨Dz 47,Code.one [47] 47 rfl rfl (by simp),rfl⟩
  ·exact ⟨Dz 37,Code.one [37] 37 rfl rfl (by simp),rfl⟩
  ·exact ⟨Dz 171,Code.one [194,171] 171 rfl rfl (by simp),rfl⟩
  ·exact ⟨Dz 187,Code.one [194,187] 187 rfl rfl (by simp),rfl⟩) v0 v1
 have hx':([.str ⟨#[43]⟩,.str ⟨#[45]⟩,.str ⟨#[42]⟩,.str ⟨#[38]⟩,.str ⟨#[124]⟩,.str ⟨#[94]⟩,.str ⟨#[60]⟩,.str ⟨#[61]⟩,.str ⟨#[47]⟩,.str ⟨#[37]⟩,.str ⟨#[194,171]⟩,.str ⟨#[194,187]⟩]:List AV)[v.toNat]? = some (.str x):=hx
 have U2:Up T h h2:=u1.trans ((Up.alloc _ _).trans u2)
 obtain ⟨s1,h3,e3,⟨l1,c1,a1⟩,u3,t3⟩:=ih bar T h2 fa hb t2 (Vw.up hv U2 hfa) hfa
 have U3:=U2.trans u3
 obtain ⟨s2,h4,e4,⟨l2,c2,a2⟩,u4,t4⟩:=ih bar T h3 fa hb t3 (Vw.up hv U3 hfa) hfa
 have U4:=U3.trans u4
 have hB:vB deep.toNat=3*vB (deep - 1).toNat+3:=by
  have:deep.toNat=(deep - 1).toNat+1:=by omega
  rw [this];rfl
 have hM:vB (deep - 1).toNat≤vB 8:=Ha (by omega)
 have h8:vB 8=42645:=rfl
 obtain ⟨_,_,_,z1⟩:=id c1
 obtain ⟨_,_,_,z2⟩:=id c2
 obtain ⟨_,_,_,z3⟩:=id hy
 have g1:s1.size+s2.size≤9223372036854775807:=by omega
 have g2:s1.size+s2.size+x.size≤9223372036854775807:=by omega
 have w1:IntKind.i64.wrap (deep - 1)=deep - 1:=BN (by omega) (by omega)
 have hk:=hK (s1++s2++x) h4 ((Val.plain (c1.app c2) hy py).le (by have:=Mj (deep - 1).toNat;omega)) U4 t4
 have hb1:=e1
 have c:¬ deep≤0:=by omega
 have c3:¬ k<3:=by omega
 simp [f_engramkeep_Tape_value,AO,go_sem,hb1,c,c3,hc,hc2,AX,Af,AL,e2,AJ,v0,v1]
 simp [-getElem?_pos,go_sem,hg,hx',w1,e3,e4,CO,g1,g2]
 simp [go_sem,AN,AM,AA,AE,AD,AC,AV.free.freeL,AV.free,AF,AH]
 exact ⟨_,_,⟨rfl,rfl⟩,hk⟩
theorem eB (hb:bar≤T) (e1:call tb prim AR [.ptr T 0,.int .i64 14] bar h=some (.int .i64 k,h1)) (u1:Up T h h1) (t1:TS h1 T L) (hd:0<deep) (hd2:deep≤9) (hv:FV h fa fs) (hfa:¬ fa.isAt T) (ih:It L fs (deep - 1)) (hc:k=9):KZ L deep bar T h fa:=by
 refine Ik hb fun K hK=>?_
 obtain ⟨s1,h2,e2,⟨l1,c1,a1⟩,u2,t2⟩:=ih bar T h1 fa hb t1 (Vw.up hv u1 hfa) hfa
 have hT:=t2.lt
 obtain ⟨v,h3,e3,v0,v1,_,u3,t3⟩:=Bv (bar:=bar) (t2.alloc (.cells [.str ⟨#[33]⟩,.str ⟨#[46,43]⟩,.str ⟨#[194,169]⟩,.str ⟨#[64]⟩,.str ⟨#[207,128,113]⟩,.str ⟨#[46,44]⟩,.str ⟨#[194,164]⟩] 0)) 7 (by omega) (by omega) hb
 have hg:h3.get h2.n=some (.cells [.str ⟨#[33]⟩,.str ⟨#[46,43]⟩,.str ⟨#[194,169]⟩,.str ⟨#[64]⟩,.str ⟨#[207,128,113]⟩,.str ⟨#[46,44]⟩,.str ⟨#[194,164]⟩] 0):=by
  rw [u3.2 h2.n (by simp [AP]) (by omega),AK,if_pos rfl]
 obtain ⟨x,hx,m,y,hy,py⟩:=QJ (P:=fun x=>∃ m y,Code x (m++[y]) 3∧Jc y.sign=true) [⟨#[33]⟩,⟨#[46,43]⟩,⟨#[194,169]⟩,⟨#[64]⟩,⟨#[207,128,113]⟩,⟨#[46,44]⟩,⟨#[194,164]⟩] (by
  intro x hx;simp only [List.mem_cons,List.not_mem_nil,or_false] at hx
  rcases hx with rfl | rfl | rfl | rfl | rfl | rfl | rfl
  ·exact ⟨[],Dz 33,Code.one [33] 33 rfl rfl (by simp),rfl⟩
  ·exact ⟨[Dz 46],Dz 43,(Code.lit (l:=[46,43]) (rs:=[46,43]) rfl rfl).le (by simp),rfl⟩
  ·exact ⟨[],Dz 169,Code.one [194,169] 169 rfl rfl (by simp),rfl⟩
  ·exact ⟨[],Dz 64,Code.one [64] 64 rfl rfl (by simp),rfl⟩
  ·exact ⟨[],_,Code.pi,rfl⟩
  ·exact ⟨[Dz 46],Dz 44,(Code.lit (l:=[46,44]) (rs:=[46,44]) rfl rfl).le (by simp),rfl⟩
  ·exact ⟨[],Dz 164,Code.one [194,164] 164 rfl rfl (by simp),rfl⟩) v0 v1
 have hx':([.str ⟨#[33]⟩,.str ⟨#[46,43]⟩,.str ⟨#[194,169]⟩,.str ⟨#[64]⟩,.str ⟨#[207,128,113]⟩,.str ⟨#[46,44]⟩,.str ⟨#[194,164]⟩]:List AV)[v.toNat]? = some (.str x):=hx
 have hB:vB deep.toNat=3*vB (deep - 1).toNat+3:=by
  have:deep.toNat=(deep - 1).toNat+1:=by omega
  rw [this];rfl
 have hM:vB (deep - 1).toNat≤vB 8:=Ha (by omega)
 have h8:vB 8=42645:=rfl
 obtain ⟨_,_,_,z1⟩:=id c1
 obtain ⟨_,_,_,z3⟩:=id hy
 have g1:s1.size+x.size≤9223372036854775807:=by omega
 have w1:IntKind.i64.wrap (deep - 1)=deep - 1:=BN (by omega) (by omega)
 have hk:=hK (s1++x) h3 ((Val.plain c1 hy py).le (by have:=Mj (deep - 1).toNat;omega)) (u1.trans (u2.trans ((Up.alloc _ _).trans u3))) t3
 have hb1:=e1
 have c:¬ deep≤0:=by omega
 subst hc
 simp [f_engramkeep_Tape_value,AO,go_sem,hb1,c,w1,e2,AX,Af,AL,e3,AJ,v0,v1]
 simp [-getElem?_pos,go_sem,hg,hx',CO,g1]
 simp [go_sem,AN,AM,AA,AE,AD,AC,AV.free.freeL,AV.free,AF,AH]
 exact ⟨_,_,⟨rfl,rfl⟩,hk⟩
theorem eE (hb:bar≤T) (e1:call tb prim AR [.ptr T 0,.int .i64 14] bar h=some (.int .i64 k,h1)) (u1:Up T h h1) (t1:TS h1 T L) (hd:0<deep) (hd2:deep≤9) (hv:FV h fa fs) (hfa:¬ fa.isAt T) (ih:It L fs (deep - 1)) (hc:k=10):KZ L deep bar T h fa:=by
 refine Ik hb fun K hK=>?_
 obtain ⟨s1,h2,e2,⟨l1,c1,a1⟩,u2,t2⟩:=ih bar T h1 fa hb t1 (Vw.up hv u1 hfa) hfa
 have U2:=u1.trans u2
 obtain ⟨s2,h3,e3,⟨l2,c2,a2⟩,u3,t3⟩:=ih bar T h2 fa hb t2 (Vw.up hv U2 hfa) hfa
 have U3:=U2.trans u3
 obtain ⟨s3,h4,e4,⟨l3,c3,a3⟩,u4,t4⟩:=ih bar T h3 fa hb t3 (Vw.up hv U3 hfa) hfa
 have U4:=U3.trans u4
 have hB:vB deep.toNat=3*vB (deep - 1).toNat+3:=by
  have:deep.toNat=(deep - 1).toNat+1:=by omega
  rw [this];rfl
 have hM:vB (deep - 1).toNat≤vB 8:=Ha (by omega)
 have h8:vB 8=42645:=rfl
 obtain ⟨_,_,_,z1⟩:=id c1
 obtain ⟨_,_,_,z2⟩:=id c2
 obtain ⟨_,_,_,z3⟩:=id c3
 have g1:s1.size+1≤9223372036854775807:=by omega
 have g2:s1.size+1+s2.size≤9223372036854775807:=by omega
 have g3:s1.size+1+s2.size+1≤9223372036854775807:=by omega
 have g4:s1.size+1+s2.size+1+s3.size≤9223372036854775807:=by omega
 have g5:s1.size+1+s2.size+1+s3.size+1≤9223372036854775807:=by omega
 have w1:IntKind.i64.wrap (deep - 1)=deep - 1:=BN (by omega) (by omega)
 have hk:=hK _ h4 ((Val.cond c1 c2 c3 a3).le (by rw [hB];exact Nat.le_refl _)) U4 t4
 have hb1:=e1
 have c:¬ deep≤0:=by omega
 subst hc
 simp [f_engramkeep_Tape_value,AO,go_sem,hb1,c,w1,e2,CO,Ej,g1,ByteArray.size_append,e3,g2,g3,e4,g4,g5]
 simp [go_sem,AN,AM,AA,AE,AD,AC,AV.free.freeL,AV.free,AF,AH]
 exact ⟨_,_,⟨rfl,rfl⟩,hk⟩
theorem eG (hb:bar≤T) (e1:call tb prim AR [.ptr T 0,.int .i64 14] bar h=some (.int .i64 k,h1)) (u1:Up T h h1) (t1:TS h1 T L) (hd:0<deep) (hc:k=11):KZ L deep bar T h fa:=by
 refine Ik hb fun K hK=>?_
 have hk:=hK ⟨#[35]⟩ h1 ⟨_,Code.one [35] 35 rfl rfl (by have:=Mj deep.toNat;simp;omega),Alive.plain [] (t:=Dz 35) rfl⟩ u1 t1
 have hb1:=e1
 have c:¬ deep≤0:=by omega
 subst hc
 simp [f_engramkeep_Tape_value,AO,go_sem,hb1,c]
 simp [go_sem,AN,AM,AA,AE,AD,AC,AV.free.freeL,AV.free,AF,AH]
 exact ⟨_,_,⟨rfl,rfl⟩,hk⟩
theorem eI (hb:bar≤T) (e1:call tb prim AR [.ptr T 0,.int .i64 14] bar h=some (.int .i64 k,h1)) (u1:Up T h h1) (t1:TS h1 T L) (hd:0<deep) (hd2:deep≤9) (hv:FV h fa fs) (hfa:¬ fa.isAt T) (ih:It L fs (deep - 1)) (hc:k=12∧fs.length=0∨k=13):KZ L deep bar T h fa:=by
 refine Ik hb fun K hK=>?_
 obtain ⟨s1,h2,e2,⟨l1,c1,a1⟩,u2,t2⟩:=ih bar T h1 fa hb t1 (Vw.up hv u1 hfa) hfa
 obtain ⟨v,h3,e3,v0,v1,_,u3,t3⟩:=Bv (bar:=bar) t2 4 (by omega) (by omega) hb
 obtain ⟨x,h4,e4,x0,x1,_,u4,t4⟩:=Bv (bar:=bar) t3 4 (by omega) (by omega) hb
 have w2:IntKind.i64.wrap (65+v)=65+v:=BN (by omega) (by omega)
 have w3:IntKind.i32.wrap (65+v)=65+v:=Mp (by omega) (by omega)
 have w4:IntKind.i64.wrap (97+x)=97+x:=BN (by omega) (by omega)
 have w5:IntKind.i32.wrap (97+x)=97+x:=Mp (by omega) (by omega)
 have hB:vB deep.toNat=3*vB (deep - 1).toNat+3:=by
  have:deep.toNat=(deep - 1).toNat+1:=by omega
  rw [this];rfl
 have hM:vB (deep - 1).toNat≤vB 8:=Ha (by omega)
 have h8:vB 8=42645:=rfl
 obtain ⟨_,_,_,z1⟩:=id c1
 have q1:Code (Utf8.encode (65+v)) [Dz (65+v)] 1:=Code.letter (by omega)
 have q2:Code (Utf8.encode (97+x)) [Dz (97+x)] 1:=Code.letter (by omega)
 have y1:=(GM (x:=65+v) (by omega) (by omega)).2
 have y2:=(GM (x:=97+x) (by omega) (by omega)).2
 have g1:s1.size+1≤9223372036854775807:=by omega
 have g2:s1.size+1+1≤9223372036854775807:=by omega
 have w1:IntKind.i64.wrap (deep - 1)=deep - 1:=BN (by omega) (by omega)
 have hk:=hK (s1++Utf8.encode (65+v)++Utf8.encode (97+x)) h4 ((Val.plain (m:=[]) (c1.app q1) q2 (OC (by omega))).le (by have:=Mj (deep - 1).toNat;omega)) (u1.trans (u2.trans (u3.trans u4))) t4
 have hb1:=e1
 have c:¬ deep≤0:=by omega
 have hl:=hv.len
 rcases hc with ⟨rfl,hc⟩ | rfl
 ·have hl':¬ (0:Int)<(fs.length:Int):=by omega
  simp [f_engramkeep_Tape_value,AO,go_sem,hb1,c,hl,hl',hc,w1,e2,e3,w2,w3,w4,w5,e4,CO,y1,y2,ByteArray.size_append,g1,g2]
  simp [go_sem,AN,AM,AA,AE,AD,AC,AV.free.freeL,AV.free,AF,AH]
  exact ⟨_,_,⟨rfl,rfl⟩,hk⟩
 ·simp [f_engramkeep_Tape_value,AO,go_sem,hb1,c,w1,e2,e3,w2,w3,w4,w5,e4,CO,y1,y2,ByteArray.size_append,g1,g2]
  simp [go_sem,AN,AM,AA,AE,AD,AC,AV.free.freeL,AV.free,AF,AH]
  exact ⟨_,_,⟨rfl,rfl⟩,hk⟩
end
end Go.Ev
namespace Go.Ev
open Go
section
variable {bar T:Nat} {h h1:H} {fa:AV} {fs:List Fn} {L:List Int} {deep k:Int}
theorem dA {o:Oracle} {bar:Nat} {g:H} {fa:AV} {fs:List Fn} (hv:FV g fa fs) {i:Nat} (hi:i<fs.length) {c d:Nat} {r:List IOper} {ks:List Fr} {e:Env} {Q:Ex→Env→H→Prop}
  (hw:∀ v,HC o bar r ks ((d,.agg fs[i].cells)::(c,v)::e) g Q):Lh o bar (Hu 3 (some fa) (some (.int .i64 (i:Nat))) g) (some c) (⟨some d,.ld true 3 (.t c),none⟩::r) ks e Q:=by
 have hbi:(i:Int)<(fs.length:Int):=by omega
 rcases hv.cases with ⟨rfl,rfl⟩ | ⟨full,cs,rfl,hl,_,hy⟩ | ⟨id',off,full,all,p',rfl,hlt,hg',_,hy⟩
 ·cases hi
 ·simp [go_sem,AJ,hi,hbi,hl,hy i hi]
  exact hw _
 ·simp [go_sem,AJ,hi,hbi,hg',hy i hi]
  exact hw _
theorem Yn (hb:bar≤T) (hd2:deep≤9) (hd:0<deep) (hv:FV h fa fs) (hfa:¬ fa.isAt T) (ih:It L fs (deep - 2)) (f:Fn) (hf:f.args≤2) (X:Nat) (hX:X<h.n) (hXT:X≠T) (hXg:h.get X=some (.cells f.cells 0)) (Q:Ex→Env→H→Prop):∀ (n:Nat) (i:Int) (g:H) (s:ByteArray) (l:List Tok),0≤i→f.args≤i+n→(i≤f.args∨i=0)→Up T h g→TS g T L→Code s l (i.toNat*vB (deep - 2).toNat) →
  (∀ e g' s' l',e.get 9=some (.ptr X 0)→e.get 10=some (.str s')→Up T h g'→TS g' T L→Code s' l' (2*vB (deep - 2).toNat)→Q (.exit 1) e g') →
  CW (call tb prim) bar [0,1,2,9,10,11] DF [(0,.ptr T 0),(1,.int .i64 deep),(2,fa),(9,.ptr X 0),(10,.str s),(11,.int .i64 i)] g Q:=by
 have hM:vB (deep - 2).toNat≤vB 8:=Ha (by omega)
 have h8:vB 8=42645:=rfl
 have w1:IntKind.i64.wrap (deep - 2)=deep - 2:=BN (by omega) (by omega)
 intro n
 induction n with
 | zero =>
  intro i g s l h0 h1 h2 hu ht hc hq
  refine Ad DF.eq_1 ?_
  have hg:=(hu.2 X hX hXT).trans hXg
  have c:¬ i<f.args:=by omega
  simp [go_sem,hg,Fn.cells,c]
  refine hq _ _ s l rfl rfl hu ht (hc.le ?_)
  have:i.toNat≤2:=by omega
  exact Nat.mul_le_mul_right _ this
 | succ n ihn =>
  intro i g s l h0 h1 h2 hu ht hc hq
  refine Ad DF.eq_1 ?_
  have hg:=(hu.2 X hX hXT).trans hXg
  by_cases c:i<f.args
  ·obtain ⟨s1,g1,e1,⟨l1,c1,a1⟩,u1,t1⟩:=ih bar T g fa hb ht (Vw.up hv hu hfa) hfa
   obtain ⟨_,_,_,z1⟩:=id c1
   obtain ⟨_,_,_,z2⟩:=id hc
   have hi1:i.toNat≤1:=by omega
   have hm:=Nat.mul_le_mul_right (vB (deep - 2).toNat) hi1
   have g2:s.size+s1.size≤9223372036854775807:=by omega
   have w2:IntKind.i64.wrap (i+1)=i+1:=BN (by omega) (by omega)
   simp [go_sem,hg,Fn.cells,c,w1,e1,CO,g2,w2]
   refine ihn (i+1) g1 _ _ (by omega) (by omega) (by omega) (hu.trans u1) t1 ((hc.app c1).le ?_) hq
   have:(i+1).toNat=i.toNat+1:=by omega
   rw [this,Nat.succ_mul];exact Nat.le_refl _
  ·simp [go_sem,hg,Fn.cells,c]
   refine hq _ _ s l rfl rfl hu ht (hc.le ?_)
   have:i.toNat≤2:=by omega
   exact Nat.mul_le_mul_right _ this
theorem eH (hb:bar≤T) (e1:call tb prim AR [.ptr T 0,.int .i64 14] bar h=some (.int .i64 k,h1)) (u1:Up T h h1) (t1:TS h1 T L) (hd:0<deep) (hd2:deep≤9) (hv:FV h fa fs) (hfa:¬ fa.isAt T) (hfs:SU fs) (hfl:fs.length≤1000) (ih:It L fs (deep - 2)) (hc:k=12) (hc2:0<fs.length):KZ L deep bar T h fa:=by
 refine Ik hb fun K hK=>?_
 obtain ⟨v,h2,e2,v0,v1,_,u2,t2⟩:=Bv (bar:=bar) t1 fs.length (by omega) (by omega) hb
 obtain ⟨i,rfl⟩:∃ i:Nat,v=(i:Nat):=⟨v.toNat,by omega⟩
 have hi:i<fs.length:=by omega
 have hf:=hfs fs[i] (List.getElem_mem hi)
 have U2:=u1.trans u2
 have hT:=t2.lt
 have hb1:=e1
 have c:¬ deep≤0:=by omega
 have hl:=hv.len
 have hl':(0:Int)<(fs.length:Int):=by omega
 have n1:h2.n≠T:=by omega
 subst hc
 simp [f_engramkeep_Tape_value,AO,go_sem,hb1,c,hl,hc2,e2]
 refine dA (Vw.up hv U2 hfa) hi fun v1=>?_
 have nb:bar≤h2.n:=by omega
 simp [go_sem,AB,Fn.cells,nb,AL]
 have hM:vB (deep - 2).toNat≤vB 8:=Ha (by omega)
 have h8:vB 8=42645:=rfl
 have hB:vB deep.toNat=3*vB (deep - 1).toNat+3:=by
  have:deep.toNat=(deep - 1).toNat+1:=by omega
  rw [this];rfl
 have hB2:vB (deep - 2).toNat≤vB (deep - 1).toNat:=Ha (by omega)
 have U3:Up T h2 ((h2.alloc (.cells [.int .i32 0,.int .i64 0,.str ⟨#[]⟩] 0)).set h2.n (.cells fs[i].cells 0)):=⟨by simp [AW,AP],fun j hj _=>by rw [AU,if_neg (by omega),AK,if_neg (by omega)]⟩
 have T3:TS ((h2.alloc (.cells [.int .i32 0,.int .i64 0,.str ⟨#[]⟩] 0)).set h2.n (.cells fs[i].cells 0)) T L:=t2.up U3 (by rw [AU,if_neg (by omega),AK,if_neg (by omega)])
 refine Yn (fs:=fs) (deep:=deep) hb hd2 hd (Vw.up hv (U2.trans U3) hfa) hfa ih fs[i] hf.2.2 h2.n (by simp [AW,AP]) n1 (by rw [AU,if_pos rfl]) _ 2 0 _ ⟨#[]⟩ [] (by omega) (by omega) (by omega) (Up.refl _ _) T3 (Code.nil.le (by omega)) (fun e g' s' l' q1 q2 u4 t4 c4=>?_)
 have hg:=(u4.2 h2.n (by simp [AW,AP]) n1).trans (by rw [AU,if_pos rfl]:_=some (.cells fs[i].cells 0))
 obtain ⟨_,_,_,z1⟩:=id c4
 have y:=Code.call hf.1
 obtain ⟨_,_,_,z2⟩:=id y
 have cc:=c4.app y
 have zz:(Utf8.encode fs[i].name).size≤4:=Na _
 have g1:s'.size+2≤9223372036854775807:=by omega
 have g2:s'.size+2+(Utf8.encode fs[i].name).size≤9223372036854775807:=by omega
 simp [go_sem,q1,q2,hg,Fn.cells,CO,Ej,g1,g2,ByteArray.size_append]
 simp [go_sem,AN,AM,AA,AE,AD,AC,AV.free.freeL,AV.free,AF,AH]
 refine ⟨_,_,⟨rfl,rfl⟩,hK _ _ ?_ (U2.trans (U3.trans u4)) t4⟩
 rw [Se]
 exact ⟨_,cc.le (by have:=Mj (deep - 1).toNat;omega),Alive.plain _ rfl⟩
theorem PY (hfs:SU fs) (hfl:fs.length≤1000):∀ (d:Nat) (deep:Int),deep≤d→d≤9→-5≤deep→It L fs deep:=by
 intro d
 induction d with
 | zero =>
  intro deep h1 _ _ bar T h fa hb ht hv hfa
  obtain ⟨k,h1,e1,k0,k1,_,u1,t1⟩:=Bv (bar:=bar) ht 14 (by omega) (by omega) hb
  exact WG hb e1 u1 t1 (.inl (by omega))
 | succ d ih =>
  intro deep h1 h2 h3 bar T h fa hb ht hv hfa
  obtain ⟨k,h1,e1,k0,k1,_,u1,t1⟩:=Bv (bar:=bar) ht 14 (by omega) (by omega) hb
  by_cases c0:deep≤0
  ·exact WG hb e1 u1 t1 (.inl c0)
  have i1:=ih (deep - 1) (by omega) (by omega) (by omega)
  have i2:=ih (deep - 2) (by omega) (by omega) (by omega)
  have p:0<deep:=by omega
  have q:deep≤9:=by omega
  by_cases c1:k<3
  ·exact WG hb e1 u1 t1 (.inr c1)
  by_cases c2:k<6
  ·exact dy hb e1 u1 t1 p c1 c2
  by_cases c3:k<9
  ·exact dz hb e1 u1 t1 p q hv hfa i1 c2 c3
  by_cases c4:k=9
  ·exact eB hb e1 u1 t1 p q hv hfa i1 c4
  by_cases c5:k=10
  ·exact eE hb e1 u1 t1 p q hv hfa i1 c5
  by_cases c6:k=11
  ·exact eG hb e1 u1 t1 p c6
  by_cases c7:k=12∧0<fs.length
  ·exact eH hb e1 u1 t1 p q hv hfa hfs hfl i2 c7.1 c7.2
  ·exact eI hb e1 u1 t1 p q hv hfa i1 (by omega)
end
end Go.Ev
namespace Go.Ev
open Go
def dB:Nat→Nat
 | 0=>63
 | d+1=>2*dB d+23
theorem Qk {a b : Nat} (h : a ≤ b) : dB a ≤ dB b := by
  induction b with
  | zero => have : a = 0 := by omega
            subst this; exact Nat.le_refl _
  | succ b ih =>
    by_cases c : a = b + 1
    · subst c; exact Nat.le_refl _
    · have := ih (by omega); simp only [dB]; omega
theorem SW (a:Nat):63≤dB a:=Qk (a:=0) (by omega)
def Cd (s:ByteArray) (n:Nat):Prop:=∃ l,Code s l n
theorem Cd.le {s:ByteArray} {n k:Nat} (h:Cd s n) (hn:n≤k):Cd s k:=by obtain ⟨l,c⟩:=h;exact ⟨l,c.le hn⟩
theorem Cd.app {a b:ByteArray} {n k:Nat} (h:Cd a n) (g:Cd b k):Cd (a++b) (n+k):=by obtain ⟨l,c⟩:=h;obtain ⟨m,d⟩:=g;exact ⟨_,c.app d⟩
theorem Cd.lit {l:List UInt8} (rs:List Int) (h:NV l=some rs) (hs:rs.all Vt=true):Cd ⟨l.toArray⟩ l.length:=⟨_,Code.lit h hs⟩
theorem Cd.nil:Cd ⟨#[]⟩ 0:=⟨_,Code.nil⟩
theorem Cd.size {s:ByteArray} {n:Nat} (h:Cd s n):s.size≤n:=by obtain ⟨_,_,_,_,z⟩:=h;exact z
theorem Val.cd {s:ByteArray} {n:Nat} (h:Val s n):Cd s n:=by obtain ⟨l,c,_⟩:=h;exact ⟨l,c⟩
theorem Cd.letter {x:Int} (h:65≤x∧x≤90∨97≤x∧x≤122):Cd (Utf8.encode x) 1:=⟨_,Code.letter h⟩
theorem Cd.loop {s u t x:ByteArray} {n:Nat} (c0:Cd (⟨#[32]⟩++s) 5) (qu:Cd u 1) (qx:Cd x 1) (c:Cd t n):Cd (⟨#[32]⟩++s++u++⟨#[91]⟩++x++⟨#[33,63,126,59]⟩++t++x++⟨#[32,49,45]⟩++u++⟨#[93]⟩) (n+20):=by
 have q1:Cd ⟨#[91]⟩ 1:=Cd.lit (l:=[91]) [91] rfl rfl
 have q2:Cd ⟨#[33,63,126,59]⟩ 4:=Cd.lit (l:=[33,63,126,59]) [33,63,126,59] rfl rfl
 have t3:Tx ([32,49]++[45]) _:=(Tx.num (ds:=[49]) (by decide) (by simp) (by simp)).app (Tx.sign (x:=45) (by omega) rfl (by omega) rfl)
 have q3:Cd ⟨#[32,49,45]⟩ 3:=⟨_,[32,49,45],JN [32,49,45] _ rfl,t3,Nat.le_refl _⟩
 have q4:Cd ⟨#[93]⟩ 1:=Cd.lit (l:=[93]) [93] rfl rfl
 have k1:=c0.app qu
 have k2:=k1.app q1
 have k3:=k2.app qx
 have k4:=k3.app q2
 have k5:=k4.app c
 have k6:=k5.app qx
 have k7:=k6.app q3
 have k8:=k7.app qu
 have k9:=k8.app q4
 exact k9.le (by omega)
section
variable {bar T:Nat} {h h1:H} {fa:AV} {fs:List Fn} {L:List Int} {deep k:Int}
def NR (L:List Int) (deep:Int) (bar T:Nat) (h:H) (fa:AV):Prop:=∃ s h',call tb prim Bc [.ptr T 0,.int .i64 deep,fa] bar h=some (.str s,h')∧Cd s (dB deep.toNat)∧Up T h h'∧TS h' T L
def Uw (L:List Int) (fs:List Fn) (deep:Int):Prop:=∀ (bar T:Nat) (h:H) (fa:AV),bar≤T→TS h T L→FV h fa fs→¬ fa.isAt T→NR L deep bar T h fa
theorem JK (hb:bar≤T) (hw:∀ K:AV→H→Prop,(∀ s h',Cd s (dB deep.toNat)→Up T h h'→TS h' T L→K (.str s) h')→El (call tb prim) bar f_engramkeep_Tape_deed.body [] (AO [.ptr T 0,.int .i64 deep,fa]) h (AM f_engramkeep_Tape_deed bar K)):NR L deep bar T h fa:=by
 obtain ⟨r,h',hc,s,rfl,k⟩:=Aj (o:=call tb prim) (F:=f_engramkeep_Tape_deed) (bar:=bar) (h:=h) (args:=[.ptr T 0,.int .i64 deep,fa]) (P:=fun r h'=>∃ s,r=.str s∧Cd s (dB deep.toNat)∧Up T h h'∧TS h' T L) rfl rfl (fun K hK=>hw K fun s h' a b c=>hK _ _ ⟨s,rfl,a,b,c⟩)
 exact ⟨s,h',AQ KA hc,k⟩
set_option linter.unusedSectionVars false
variable (hv2:It L fs 2) (hv1:It L fs 1)
include hv2 hv1
theorem WU (hb:bar≤T) (e1:call tb prim AR [.ptr T 0,.int .i64 9] bar h=some (.int .i64 k,h1)) (u1:Up T h h1) (t1:TS h1 T L) (hv:FV h fa fs) (hfa:¬ fa.isAt T) (hc:k<3):NR L deep bar T h fa:=by
 refine JK hb fun K hK=>?_
 obtain ⟨s1,h2,e2,c1,u2,t2⟩:=hv2 bar T h1 fa hb t1 (Vw.up hv u1 hfa) hfa
 obtain ⟨v,h3,e3,v0,v1,_,u3,t3⟩:=Bv (bar:=bar) t2 4 (by omega) (by omega) hb
 have c1:Cd s1 57:=c1.cd
 have w1:IntKind.i64.wrap (65+v)=65+v:=BN (by omega) (by omega)
 have w2:IntKind.i32.wrap (65+v)=65+v:=Mp (by omega) (by omega)
 have q:Cd (Utf8.encode (65+v)) 1:=Cd.letter (by omega)
 have z:=c1.size
 have y1:=(GM (x:=65+v) (by omega) (by omega)).2
 have g1:s1.size+1≤9223372036854775807:=by omega
 have hk:=hK _ h3 ((c1.app q).le (by have:=SW deep.toNat;omega)) (u1.trans (u2.trans u3)) t3
 simp [f_engramkeep_Tape_deed,AO,go_sem,e1,hc,e2,e3,w1,w2,CO,y1,g1]
 simp [go_sem,AN,AM,AA,AE,AD,AC,AV.free.freeL,AV.free,AF,AH]
 exact ⟨_,_,⟨rfl,rfl⟩,hk⟩
theorem WV (hb:bar≤T) (e1:call tb prim AR [.ptr T 0,.int .i64 9] bar h=some (.int .i64 k,h1)) (u1:Up T h h1) (t1:TS h1 T L) (hv:FV h fa fs) (hfa:¬ fa.isAt T) (hc:¬ k<3) (hc2:k<5):NR L deep bar T h fa:=by
 refine JK hb fun K hK=>?_
 obtain ⟨v,h2,e2,v0,v1,_,u2,t2⟩:=Bv (bar:=bar) t1 190 (by omega) (by omega) hb
 obtain ⟨s,ds,e3,w,hd,hne,hl,hsz⟩:=NX 2 v v0 (by omega) (by omega) bar h2
 have U2:=u1.trans u2
 obtain ⟨s1,h3,e4,c1,u3,t3⟩:=hv2 bar T h2 fa hb t2 (Vw.up hv U2 hfa) hfa
 have hT:=t3.lt
 obtain ⟨x,h4,e5,x0,x1,_,u4,t4⟩:=Bv (bar:=bar) (t3.alloc (.cells [.str ⟨#[36]⟩,.str ⟨#[194,174]⟩] 0)) 2 (by omega) (by omega) hb
 have hg:h4.get h3.n=some (.cells [.str ⟨#[36]⟩,.str ⟨#[194,174]⟩] 0):=by
  rw [u4.2 h3.n (by simp [AP]) (by omega),AK,if_pos rfl]
 obtain ⟨y,hy,py⟩:=QJ (P:=fun x=>Cd x 2) [⟨#[36]⟩,⟨#[194,174]⟩] (by
  intro x hx;simp only [List.mem_cons,List.not_mem_nil,or_false] at hx
  rcases hx with rfl | rfl
  ·exact (Cd.lit (l:=[36]) [36] rfl rfl).le (by simp)
  ·exact Cd.lit (l:=[194,174]) [174] rfl rfl) x0 x1
 have hy':([.str ⟨#[36]⟩,.str ⟨#[194,174]⟩]:List AV)[x.toNat]? = some (.str y):=hy
 have c1:Cd s1 57:=c1.cd
 have c0:Cd (⟨#[32]⟩++s) 4:=⟨_,(Code.num w hd hne (by omega)).le (by omega)⟩
 have z:=c1.size
 have z2:=py.size
 have g1:1+s.size≤9223372036854775807:=by omega
 have g2:1+s.size+s1.size≤9223372036854775807:=by omega
 have g3:1+s.size+s1.size+y.size≤9223372036854775807:=by omega
 have hk:=hK _ h4 (((c0.app c1).app py).le (by have:=SW deep.toNat;omega)) (U2.trans (u3.trans ((Up.alloc _ _).trans u4))) t4
 simp [f_engramkeep_Tape_deed,AO,go_sem,e1,hc,hc2,e2,e3,CO,Ej,g1,e4,ByteArray.size_append,g2,AX,Af,AL,e5,AJ,x0,x1]
 simp [-getElem?_pos,go_sem,hg,hy',CO,Ej,ByteArray.size_append,g3]
 simp [go_sem,AN,AM,AA,AE,AD,AC,AV.free.freeL,AV.free,AF,AH]
 exact ⟨_,_,⟨rfl,rfl⟩,hk⟩
theorem az (hb:bar≤T) (e1:call tb prim AR [.ptr T 0,.int .i64 9] bar h=some (.int .i64 k,h1)) (u1:Up T h h1) (t1:TS h1 T L) (hv:FV h fa fs) (hfa:¬ fa.isAt T) (ih:Uw L fs (deep - 1)) (hd:0<deep) (hd2:deep≤3) (hc:k=5):NR L deep bar T h fa:=by
 refine JK hb fun K hK=>?_
 obtain ⟨s1,h2,e2,c1,u2,t2⟩:=hv1 bar T h1 fa hb t1 (Vw.up hv u1 hfa) hfa
 have U2:=u1.trans u2
 obtain ⟨s2,h3,e3,c2,u3,t3⟩:=ih bar T h2 fa hb t2 (Vw.up hv U2 hfa) hfa
 have U3:=U2.trans u3
 have hB:dB deep.toNat=2*dB (deep - 1).toNat+23:=by
  have:deep.toNat=(deep - 1).toNat+1:=by omega
  rw [this];rfl
 have hM:dB (deep - 1).toNat≤dB 2:=Qk (by omega)
 have h8:dB 2=321:=rfl
 have z2:=c2.size
 obtain ⟨s3,e4,hs3⟩:=Uk (bar:=bar) (h:=h3) s2 (by omega)
 have c3:Cd s3 (dB (deep - 1).toNat):=by
  rcases hs3 with rfl | rfl
  ·exact c2
  ·exact Cd.nil.le (by omega)
 obtain ⟨s4,h4,e5,c4,u4,t4⟩:=ih bar T h3 fa hb t3 (Vw.up hv U3 hfa) hfa
 have hT:=t4.lt
 have z3:=c3.size
 have z4:=c4.size
 have c1:Cd s1 18:=c1.cd
 have z1:=c1.size
 obtain ⟨x,h5,e6,x0,x1,_,u5,t5⟩:=Bv (bar:=bar) (t4.alloc (.cells [.str ⟨#[59]⟩,.str (⟨#[58]⟩++s4++⟨#[59]⟩),.str ⟨#[58,194,161,59]⟩] 0)) 3 (by omega) (by omega) hb
 have hg:h5.get h4.n=some (.cells [.str ⟨#[59]⟩,.str (⟨#[58]⟩++s4++⟨#[59]⟩),.str ⟨#[58,194,161,59]⟩] 0):=by
  rw [u5.2 h4.n (by simp [AP]) (by omega),AK,if_pos rfl]
 have q1:Cd ⟨#[58]⟩ 1:=Cd.lit (l:=[58]) [58] rfl rfl
 have q2:Cd ⟨#[59]⟩ 1:=Cd.lit (l:=[59]) [59] rfl rfl
 have q3:Cd ⟨#[63]⟩ 1:=Cd.lit (l:=[63]) [63] rfl rfl
 obtain ⟨y,hy,py⟩:=QJ (P:=fun x=>Cd x (dB (deep - 1).toNat+4)) [⟨#[59]⟩,⟨#[58]⟩++s4++⟨#[59]⟩,⟨#[58,194,161,59]⟩] (by
  intro x hx;simp only [List.mem_cons,List.not_mem_nil,or_false] at hx
  rcases hx with rfl | rfl | rfl
  ·exact q2.le (by omega)
  ·exact ((q1.app c4).app q2).le (by omega)
  ·exact (Cd.lit (l:=[58,194,161,59]) [58,161,59] rfl rfl).le (by simp)) x0 x1
 have hy':([.str ⟨#[59]⟩,.str (⟨#[58]⟩++s4++⟨#[59]⟩),.str ⟨#[58,194,161,59]⟩]:List AV)[x.toNat]? = some (.str y):=hy
 have z5:=py.size
 have g1:s1.size+1≤9223372036854775807:=by omega
 have g2:s1.size+1+s3.size≤9223372036854775807:=by omega
 have g3:1+s4.size≤9223372036854775807:=by omega
 have g4:1+s4.size+1≤9223372036854775807:=by omega
 have g5:s1.size+1+s3.size+y.size≤9223372036854775807:=by omega
 have w1:IntKind.i64.wrap (deep - 1)=deep - 1:=BN (by omega) (by omega)
 have hk:=hK _ h5 ((((c1.app q3).app c3).app py).le (by omega)) (U3.trans (u4.trans ((Up.alloc _ _).trans u5))) t5
 subst hc
 simp [f_engramkeep_Tape_deed,AO,go_sem,e1,hd,e2,CO,Ej,g1,w1,e3,e4,ByteArray.size_append,g2,e5,g3,g4,AX,Af,AL,e6,AJ,x0,x1]
 simp [-getElem?_pos,go_sem,hg,hy',CO,Ej,ByteArray.size_append,g5]
 simp [go_sem,AN,AM,AA,AE,AD,AC,AV.free.freeL,AV.free,AF,AH]
 exact ⟨_,_,⟨rfl,rfl⟩,hk⟩
theorem bA (hb:bar≤T) (e1:call tb prim AR [.ptr T 0,.int .i64 9] bar h=some (.int .i64 k,h1)) (u1:Up T h h1) (t1:TS h1 T L) (hv:FV h fa fs) (hfa:¬ fa.isAt T) (ih:Uw L fs (deep - 1)) (hd:0<deep) (hd2:deep≤3) (hc:k=6):NR L deep bar T h fa:=by
 refine JK hb fun K hK=>?_
 obtain ⟨v,h2,e2,v0,v1,_,u2,t2⟩:=Bv (bar:=bar) t1 3 (by omega) (by omega) hb
 obtain ⟨x,h3,e3,x0,x1,_,u3,t3⟩:=Bv (bar:=bar) t2 5 (by omega) (by omega) hb
 obtain ⟨s,ds,e4,w,hds,hne,hl,hsz⟩:=NX 3 (1+x) (by omega) (by omega) (by omega) bar h3
 have U3:=u1.trans (u2.trans u3)
 obtain ⟨s2,h4,e5,c2,u4,t4⟩:=ih bar T h3 fa hb t3 (Vw.up hv U3 hfa) hfa
 have hB:dB deep.toNat=2*dB (deep - 1).toNat+23:=by
  have:deep.toNat=(deep - 1).toNat+1:=by omega
  rw [this];rfl
 have hM:dB (deep - 1).toNat≤dB 2:=Qk (by omega)
 have h8:dB 2=321:=rfl
 have z2:=c2.size
 obtain ⟨s3,e6,hs3⟩:=Uk (bar:=bar) (h:=h4) s2 (by omega)
 have c3:Cd s3 (dB (deep - 1).toNat):=by
  rcases hs3 with rfl | rfl
  ·exact c2
  ·exact Cd.nil.le (by omega)
 have z3:=c3.size
 have c0:Cd (⟨#[32]⟩++s) 5:=⟨_,(Code.num w hds hne (by omega)).le (by omega)⟩
 have w1:IntKind.i64.wrap (120+v)=120+v:=BN (by omega) (by omega)
 have w2:IntKind.i32.wrap (120+v)=120+v:=Mp (by omega) (by omega)
 have w3:IntKind.i64.wrap (1+x)=1+x:=BN (by omega) (by omega)
 have w4:IntKind.i64.wrap (deep - 1)=deep - 1:=BN (by omega) (by omega)
 have w5:IntKind.u8.wrap (120+v - 32)=88+v:=by rw [IntKind.wrap_u8];omega
 have w6:IntKind.i32.wrap (88+v)=88+v:=Mp (by omega) (by omega)
 have qx:Cd (Utf8.encode (120+v)) 1:=Cd.letter (by omega)
 have qu:Cd (Utf8.encode (88+v)) 1:=Cd.letter (by omega)
 have y1:=(GM (x:=120+v) (by omega) (by omega)).2
 have y2:=(GM (x:=88+v) (by omega) (by omega)).2
 have hx0:∀ p,(((Utf8.encode (120+v)).data[0]'p).toNat:Int)=120+v:=by
  rw [Uc (by omega) (by omega)]
  intro p
  show ((UInt8.ofNat (120+v).toNat).toNat:Int)=_
  rw [UInt8.toNat_ofNat'];omega
 have g1:1+s.size≤9223372036854775807:=by omega
 have g2:1+s.size+1≤9223372036854775807:=by omega
 have g3:1+s.size+1+1≤9223372036854775807:=by omega
 have g4:1+s.size+1+1+1≤9223372036854775807:=by omega
 have g5:1+s.size+1+1+1+4≤9223372036854775807:=by omega
 have g6:1+s.size+1+1+1+4+s3.size≤9223372036854775807:=by omega
 have g7:1+s.size+1+1+1+4+s3.size+1≤9223372036854775807:=by omega
 have g8:1+s.size+1+1+1+4+s3.size+1+3≤9223372036854775807:=by omega
 have g9:1+s.size+1+1+1+4+s3.size+1+3+1≤9223372036854775807:=by omega
 have ga:1+s.size+1+1+1+4+s3.size+1+3+1+1≤9223372036854775807:=by omega
 have hk:=hK _ h4 ((Cd.loop c0 qu qx c3).le (by omega)) (U3.trans u4) t4
 subst hc
 simp [f_engramkeep_Tape_deed,AO,go_sem,e1,hd,e2,w1,w2]
 simp [-getElem?_pos,go_sem,hx0,w5,w6,e3,w3,e4,y1,y2,CO,Ej,ByteArray.size_append,AJ]
 simp [-getElem?_pos,go_sem,hx0,w5,w6,CO,Ej,ByteArray.size_append,y1,y2,g1,g2,g3,g4,g5,w4,e5,e6,g6,g7,g8,g9,ga]
 simp [go_sem,AN,AM,AA,AE,AD,AC,AV.free.freeL,AV.free,AF,AH]
 exact ⟨_,_,⟨rfl,rfl⟩,hk⟩
theorem WW (hb:bar≤T) (e1:call tb prim AR [.ptr T 0,.int .i64 9] bar h=some (.int .i64 k,h1)) (u1:Up T h h1) (t1:TS h1 T L) (hv:FV h fa fs) (hfa:¬ fa.isAt T) (hc:k=7):NR L deep bar T h fa:=by
 refine JK hb fun K hK=>?_
 obtain ⟨s1,h2,e2,c1,u2,t2⟩:=hv2 bar T h1 fa hb t1 (Vw.up hv u1 hfa) hfa
 have hT:=t2.lt
 have c1:Cd s1 57:=c1.cd
 have z1:=c1.size
 obtain ⟨x,h3,e3,x0,x1,_,u3,t3⟩:=Bv (bar:=bar) (t2.alloc (.cells [.str ⟨#[]⟩,.str ⟨#[194,161]⟩] 0)) 9 (by omega) (by omega) hb
 have hg:h3.get h2.n=some (.cells [.str ⟨#[]⟩,.str ⟨#[194,161]⟩] 0):=by
  rw [u3.2 h2.n (by simp [AP]) (by omega),AK,if_pos rfl]
 have w1:IntKind.i64.wrap (x.tdiv 8)=x / 8:=by rw [Int.tdiv_eq_ediv_of_nonneg x0];exact BN (by omega) (by omega)
 have x2:0≤x / 8:=by omega
 have x3:x / 8<2:=by omega
 obtain ⟨y,hy,py⟩:=QJ (P:=fun x=>Cd x 2) [⟨#[]⟩,⟨#[194,161]⟩] (by
  intro x hx;simp only [List.mem_cons,List.not_mem_nil,or_false] at hx
  rcases hx with rfl | rfl
  ·exact Cd.nil.le (by simp)
  ·exact Cd.lit (l:=[194,161]) [161] rfl rfl) x2 x3
 have hy':([.str ⟨#[]⟩,.str ⟨#[194,161]⟩]:List AV)[(x / 8).toNat]? = some (.str y):=hy
 have z2:=py.size
 have q:Cd ⟨#[44]⟩ 1:=Cd.lit (l:=[44]) [44] rfl rfl
 have g1:s1.size+1≤9223372036854775807:=by omega
 have g2:s1.size+1+y.size≤9223372036854775807:=by omega
 have hk:=hK _ h3 (((c1.app q).app py).le (by have:=SW deep.toNat;omega)) (u1.trans (u2.trans ((Up.alloc _ _).trans u3))) t3
 subst hc
 simp [f_engramkeep_Tape_deed,AO,go_sem,e1,e2,CO,Ej,g1,AX,Af,AL,e3,w1,AJ,x2,x3]
 simp [-getElem?_pos,go_sem,hg,hy',CO,Ej,ByteArray.size_append,g2]
 simp [go_sem,AN,AM,AA,AE,AD,AC,AV.free.freeL,AV.free,AF,AH]
 exact ⟨_,_,⟨rfl,rfl⟩,hk⟩
theorem WX (hb:bar≤T) (e1:call tb prim AR [.ptr T 0,.int .i64 9] bar h=some (.int .i64 k,h1)) (u1:Up T h h1) (t1:TS h1 T L) (hv:FV h fa fs) (hfa:¬ fa.isAt T) (hc:¬ k<5) (hc2:k=5→¬ 0<deep) (hc3:k=6→¬ 0<deep) (hc4:k≠7):NR L deep bar T h fa:=by
 refine JK hb fun K hK=>?_
 obtain ⟨s1,h2,e2,c1,u2,t2⟩:=hv1 bar T h1 fa hb t1 (Vw.up hv u1 hfa) hfa
 have c1:Cd s1 18:=c1.cd
 have z1:=c1.size
 have q:Cd ⟨#[90]⟩ 1:=Cd.lit (l:=[90]) [90] rfl rfl
 have g1:s1.size+1≤9223372036854775807:=by omega
 have hk:=hK _ h2 ((c1.app q).le (by have:=SW deep.toNat;omega)) (u1.trans u2) t2
 have c3:¬ k<3:=by omega
 by_cases a5:k=5
 ·have:=hc2 a5
  subst a5
  simp [f_engramkeep_Tape_deed,AO,go_sem,e1,this,e2,CO,Ej,g1]
  simp [go_sem,AN,AM,AA,AE,AD,AC,AV.free.freeL,AV.free,AF,AH]
  exact ⟨_,_,⟨rfl,rfl⟩,hk⟩
 by_cases a6:k=6
 ·have:=hc3 a6
  subst a6
  simp [f_engramkeep_Tape_deed,AO,go_sem,e1,this,e2,CO,Ej,g1]
  simp [go_sem,AN,AM,AA,AE,AD,AC,AV.free.freeL,AV.free,AF,AH]
  exact ⟨_,_,⟨rfl,rfl⟩,hk⟩
 have b5:(k == 5)=false:=by simpa using a5
 have b6:(k == 6)=false:=by simpa using a6
 have b7:(k == 7)=false:=by simpa using hc4
 simp [f_engramkeep_Tape_deed,AO,go_sem,e1,c3,hc,b5,b6,b7,e2,CO,Ej,g1]
 simp [go_sem,AN,AM,AA,AE,AD,AC,AV.free.freeL,AV.free,AF,AH]
 exact ⟨_,_,⟨rfl,rfl⟩,hk⟩
theorem ZM:∀ (d:Nat) (deep:Int),deep≤d→d≤3→Uw L fs deep:=by
 intro d
 induction d with
 | zero =>
  intro deep h1 _ bar T h fa hb ht hv hfa
  obtain ⟨k,h1,e1,k0,k1,_,u1,t1⟩:=Bv (bar:=bar) ht 9 (by omega) (by omega) hb
  by_cases c1:k<3
  ·exact WU hv2 hv1 hb e1 u1 t1 hv hfa c1
  by_cases c2:k<5
  ·exact WV hv2 hv1 hb e1 u1 t1 hv hfa c1 c2
  by_cases c3:k=7
  ·exact WW hv2 hv1 hb e1 u1 t1 hv hfa c3
  ·exact WX hv2 hv1 hb e1 u1 t1 hv hfa c2 (by omega) (by omega) c3
 | succ d ih =>
  intro deep h1 h2 bar T h fa hb ht hv hfa
  obtain ⟨k,h1,e1,k0,k1,_,u1,t1⟩:=Bv (bar:=bar) ht 9 (by omega) (by omega) hb
  have i1:=ih (deep - 1) (by omega) (by omega)
  by_cases c1:k<3
  ·exact WU hv2 hv1 hb e1 u1 t1 hv hfa c1
  by_cases c2:k<5
  ·exact WV hv2 hv1 hb e1 u1 t1 hv hfa c1 c2
  by_cases c3:k=7
  ·exact WW hv2 hv1 hb e1 u1 t1 hv hfa c3
  by_cases c4:k=5∧0<deep
  ·exact az hv2 hv1 hb e1 u1 t1 hv hfa i1 c4.2 (by omega) c4.1
  by_cases c5:k=6∧0<deep
  ·exact bA hv2 hv1 hb e1 u1 t1 hv hfa i1 c5.2 (by omega) c5.1
  ·exact WX hv2 hv1 hb e1 u1 t1 hv hfa c2 (by omega) (by omega) c3
end
end Go.Ev
namespace Go.Ev
open Go
def eM (l:List Tok):Bool:=(BW l).isSome
theorem RX {nm:Int} {g:List Fn}:∀ (fs:List Fn) (j:Nat),Ay nm fs j≠-1→Ay nm (fs++g) j=Ay nm fs j
 | [],j,h=>absurd rfl h
 | f::r,j,h=>by
  simp only [List.cons_append,Ay] at h ⊢
  split
  ·rfl
  ·rename_i c
   rw [if_neg c] at h
   exact RX r (j+1) h
theorem XX {fs g:List Fn} {s nm:Int} (h:(Am fs s nm).2.2=true):Am (fs++g) s nm=Am fs s nm:=by
 have hc:(IV fs nm).2.2=true→IV (fs++g) nm=IV fs nm:=fun h=>by
  unfold IV at h ⊢
  rcases Iv nm fs 0 with e | ⟨i,hi,e⟩
  ·rw [e] at h
   split at h<;>simp at h
  ·have e2:=RX (g:=g) fs 0 (by rw [e];omega)
   rw [e2,e] at *
   simp only [Nat.zero_add,Int.toNat_natCast] at *
   rw [List.getElem?_append_left hi]
 by_cases c:s=955
 ·rw [T9 c] at h ⊢;rw [T9 c];exact hc h
 ·unfold Am;simp only [if_neg c]
theorem VQ {fs:List Fn} {t:Tok} {s:Js} (h:(BC fs t s).1=0):(Am fs t.sign t.name).2.2=true:=by
 rcases Iw h with ⟨_,e,_⟩ | ⟨_,_,_,e,_⟩
 ·rw [Rl fs t.name e]
 ·exact e
theorem Xz {fs g:List Fn} {t:Tok} {s:Js} (h:(BC fs t s).1=0):BC (fs++g) t s=BC fs t s:=by
 have e:=XX (g:=g) (VQ h)
 unfold BC;rw [e]
theorem Ra {fs g:List Fn}:∀ (l:List Tok) (s:Js) (o:List Int),(Cp fs l s o).1=0→Cp (fs++g) l s o=Cp fs l s o
 | [],s,o,_=>rfl
 | t::r,s,o,h=>by
  simp only [Cp] at h ⊢
  split at h
  ·rename_i c
   rw [Xz c,if_pos c,if_pos c]
   exact Ra r _ _ h
  ·rename_i c;exact absurd h c
theorem Xu {fs g:List Fn} {ts:List Tok} {ok:Bool} (h:(Eh fs ts ok).2=0):Eh (fs++g) ts ok=Eh fs ts ok:=by
 unfold Eh at h ⊢
 split at h
 ·simp at h
 ·rename_i c
  rw [if_neg c,if_neg c]
  split at h
  ·rename_i c2;exact absurd h c2
  ·rename_i c2
   have e:=Ra (fs:=fs) (g:=g) ts ⟨0,[]⟩ [] (by omega)
   rw [e]
def Fj (fs:List Fn) (c:ByteArray):List Int × Int:=if (BP c).2≠0 then ([],(BP c).2) else Eh fs (BP c).1 (eM (BP c).1)
theorem RY {fs:List Fn} {k:Nat} (hk:k<fs.length):Cl (fun l=>(BW l).isSome) fs k=Fj fs fs[k].code:=by
 unfold Cl
 rw [if_neg (by omega),Int.toNat_natCast,List.getElem?_eq_getElem hk]
 rfl
theorem WQ {fs g:List Fn} {c:ByteArray} (h:(Fj fs c).2=0):Fj (fs++g) c=Fj fs c:=by
 unfold Fj at h ⊢
 split at h
 ·rename_i q;exact absurd h q
 ·rename_i q
  rw [if_neg q,if_neg q];exact Xu h
theorem Xa {s:ByteArray} {l:List Tok} {n:Nat} (h:Code s l n) (hn:n≤512):BP s=(l,0):=by
 obtain ⟨rs,w,x,z⟩:=h
 unfold BP
 rw [if_neg (by omega),w.runes,x.tok]
theorem Alive.app {l:List Tok} (m:List Tok) (h:Alive l):Alive (m++l):=fun fs s s' hb hr=>by
 rw [JT] at hr
 cases h1:Hw fs m s with
 | none=>rw [h1] at hr;cases hr
 | some s1=>rw [h1] at hr;exact h fs s1 s' (Ky hb h1) hr
def a1p:List Tok:=[⟨97,0,0⟩,⟨48,1,0⟩,⟨43,0,0⟩]
theorem Sc:Code ⟨#[97,32,49,43]⟩ a1p 4:=by
 have t:Tx ([97]++([32,49]++[43])) a1p:=(Tx.sign (x:=97) (by omega) rfl (by omega) rfl).app ((Tx.num (ds:=[49]) (by decide) (by simp) (by simp)).app (Tx.sign (x:=43) (by omega) rfl (by omega) rfl))
 exact ⟨[97,32,49,43],JN [97,32,49,43] _ rfl,t,Nat.le_refl _⟩
theorem WL:Alive a1p:=Alive.plain [⟨97,0,0⟩,⟨48,1,0⟩] rfl
theorem ZK (fs:List Fn):Eh fs a1p true=([0,1,2],0):=by
 have e1:Am fs 97 0=(0,1,true):=T1 (by omega)
 have e2:Am fs 48 0=(0,1,true):=T1 (by omega)
 have e3:Am fs 43 0=(2,1,true):=T4 rfl
 simp [Eh,a1p,Cp,BC,Al,e1,e2,e3,Bw]
theorem ar (fs:List Fn):(Fj fs ⟨#[97,32,49,43]⟩).2=0:=by
 unfold Fj
 rw [Xa Sc (by omega)]
 have:eM a1p=true:=rfl
 simp only [this,ZK];rfl
def cf (fs:List Fn) (c:ByteArray):Prop:=(∃ l,Code c l 400∧Alive l)∧(Fj fs c).2=0
def IJ (i:Nat):Int:=if i=0 then 102 else if i=1 then 103 else 945
def GoodU (fs:List Fn):Prop:=fs.length≤3∧(∀ i (h:i<fs.length),fs[i].name=IJ i∧0≤fs[i].args∧fs[i].args≤2)∧∀ i (h:i<fs.length),cf fs fs[i].code
theorem GoodU.fns {fs:List Fn} (h:GoodU fs):SU fs:=fun f hf=>by
 obtain ⟨i,hi,rfl⟩:=List.getElem_of_mem hf
 have:=h.2.1 i hi
 refine ⟨?_,this.2⟩
 rw [this.1];unfold IJ
 split
 ·exact .inl rfl
 ·split
  ·exact .inr (.inl rfl)
  ·exact .inr (.inr rfl)
theorem GoodU.nil:GoodU []:=⟨by simp,fun i h=>by simp at h,fun i h=>by simp at h⟩
theorem GoodU.snoc {fs:List Fn} (h:GoodU fs) (h3:fs.length<3) {a:Int} (ha:0≤a∧a≤2) {c:ByteArray} (hc:∃ l,Code c l 400∧Alive l) (hok:(Fj (fs++[⟨IJ fs.length,a,c⟩]) c).2=0):GoodU (fs++[⟨IJ fs.length,a,c⟩]):=by
 refine ⟨by simp;omega,fun i hi=>?_,fun i hi=>?_⟩
 ·by_cases q:i<fs.length
  ·rw [List.getElem_append_left q];exact h.2.1 i q
  ·have:i=fs.length:=by simp at hi;omega
   subst this
   simp;exact ha
 ·by_cases q:i<fs.length
  ·rw [List.getElem_append_left q]
   obtain ⟨x,y⟩:=h.2.2 i q
   exact ⟨x,by rw [WQ y];exact y⟩
  ·have:i=fs.length:=by simp at hi;omega
   subst this
   simp;exact ⟨hc,hok⟩
end Go.Ev
namespace Go.Ev
open Go
theorem Cd.cut {s:ByteArray} {n k:Nat} (h:Cd s n) (hs:s.size≤k):Cd s k:=by obtain ⟨l,r,w,x,_⟩:=h;exact ⟨l,r,w,x,hs⟩
section
variable {bar T U:Nat} {h:H} {fa:AV} {fs:List Fn} {L:List Int}
theorem aT (hb:bar≤T) (hfs:SU fs) (hfl:fs.length≤1000) (hv:FV h fa fs) (hfa:¬ fa.isAt T) (p m:Int) (hU:h.get U=some (.cells [.int .i64 p,.int .i64 m,fa] 0)) (hUn:U<h.n) (hUT:U≠T) (r2 v5 v6:AV) (Q:Ex→Env→H→Prop):∀ (n:Nat) (g:H) (s:ByteArray),Up T h g→TS g T L→Cd s 249 →
  (∀ e g' s',e.get 2=some r2→e.get 3=some (.ptr T 0)→e.get 4=some (.ptr U 0)→e.get 5=some v5→e.get 6=some v6→e.get 7=some (.str s')→Up T h g'→TS g' T L→Cd s' 249→Q (.exit 2) e g') →
  n<100→CW (call tb prim) bar [2,3,4,5,6,7,8] FC [(2,r2),(3,.ptr T 0),(4,.ptr U 0),(5,v5),(6,v6),(7,.str s),(8,.int .i64 (n:Nat))] g Q:=by
 intro n
 induction n with
 | zero =>
  intro g s hu ht hs hq _
  refine Ad FC.eq_1 ?_
  simp [go_sem]
  exact hq _ _ s rfl rfl rfl rfl rfl rfl hu ht hs
 | succ n ih =>
  intro g s hu ht hs hq hn
  refine Ad FC.eq_1 ?_
  have hgU:=(hu.2 U hUn hUT).trans hU
  obtain ⟨d,g1,e1,c1,u1,t1⟩:=ZM (PY hfs hfl 2 2 (by omega) (by omega) (by omega)) (PY hfs hfl 1 1 (by omega) (by omega) (by omega)) 2 2 (by omega) (by omega) bar T g fa hb ht (Vw.up hv hu hfa) hfa
  have z:=c1.size
  have z0:dB (2:Int).toNat=321:=rfl
  have zs:=hs.size
  obtain ⟨b,e2⟩:=TC (bar:=bar) (h:=g1) d (by omega)
  have w1:IntKind.i64.wrap ((s.size:Int)+(d.size:Int))=(s.size:Int)+(d.size:Int):=BN (by omega) (by omega)
  have w2:IntKind.i64.wrap (((n+1:Nat):Int) - 1)=(n:Nat):=by rw [BN (by omega) (by omega)];omega
  have w2':IntKind.i64.wrap (n:Int)=(n:Nat):=BN (by omega) (by omega)
  have cn:(0:Int)<(n:Int)+1:=by omega
  have g2:s.size+d.size≤9223372036854775807:=by omega
  by_cases c:(s.size:Int)+(d.size:Int)<250
  ·cases b with
   | false =>
    simp [go_sem,hgU,e1,w1,c,e2,CO,g2,w2,w2',cn]
    exact ih g1 _ (hu.trans u1) t1 ((hs.app c1).cut (by rw [ByteArray.size_append];omega)) hq (by omega)
   | true =>
    simp [go_sem,hgU,e1,w1,c,e2,w2,w2',cn]
    exact ih g1 _ (hu.trans u1) t1 hs hq (by omega)
  ·simp [go_sem,hgU,e1,w1,c,w2,w2',cn]
   exact ih g1 _ (hu.trans u1) t1 hs hq (by omega)
end
end Go.Ev
namespace Go.Ev
open Go
theorem OS.vw {k:Nat} {h:H} {bar:Nat} {a:AV} {n:Nat} {cs:List AV} (v:OS k h bar a n cs) (hn:n≤9223372036854775807):Vw k h a n cs:=by
 obtain ⟨h1,h2,⟨rfl,e⟩ | ⟨id,rest,e1,e2,e3,e4⟩⟩:=v
 ·exact ⟨h1,hn,.inl ⟨rfl,e⟩⟩
 ·refine ⟨h1,hn,.inr (.inr ⟨id,0,false,_,0,e1,e3,e4,by rw [List.length_append,h1];omega,?_⟩)⟩
  rw [List.drop_zero,← h1];exact List.take_left ..
theorem bW {i:Nat} (hi:i<3):([.int .i32 102,.int .i32 103,.int .i32 945,.int .i32 104,.int .i32 19990]:List AV)[i]? = some (.int .i32 (IJ i)):=by
 match i,hi with
 | 0,_=>rfl
 | 1,_=>rfl
 | 2,_=>rfl
structure UI (g:H) (bar R T U:Nat) (L:List Int) (p m:Int) (fa:AV) (fs:List Fn):Prop where
 ts:TS g T L
 r:g.get R=some (.cells [.int .i64 0,.int .i64 0,.nilsl] 0)
 u:g.get U=some (.cells [.int .i64 p,.int .i64 m,fa] 0)
 os:OS 3 g bar fa fs.length (fs.flatMap Fn.cells)
 ge:∀ j,fa.isAt j→U<j
 good:GoodU fs
 un:U<g.n
section
variable {bar R T U:Nat} {L:List Int} {p m:Int}
theorem aU (hb:bar≤R) (hRT:R<T) (hTU:T<U) (Q:Ex→Env→H→Prop) (hq:∀ e g fa fs,UI g bar R T U L p m fa fs→1≤fs.length→e.get 2=some (.ptr R 0)→e.get 4=some (.ptr U 0)→Q (.exit 0) e g):∀ (k i:Nat) (g:H) (fa:AV) (fs:List Fn),3≤i+k→i=fs.length→UI g bar R T U L p m fa fs →
  CW (call tb prim) bar [2,3,4,5] Cu [(2,.ptr R 0),(3,.ptr T 0),(4,.ptr U 0),(5,As i)] g Q:=by
 intro k
 induction k with
 | zero =>
  intro i g fa fs hk hi hI
  refine Ad Cu.eq_1 ?_
  obtain ⟨v,g1,e1,v0,v1,n1,u1,t1⟩:=Bv (bar:=bar) hI.ts 3 (by omega) (by omega) (by omega)
  have w1:IntKind.i64.wrap (1+v)=1+v:=BN (by omega) (by omega)
  have c:¬ (i:Int)<1+v:=by omega
  simp [go_sem,e1,w1,c]
  refine hq _ g1 fa fs ⟨t1,?_,?_,?_,hI.ge,hI.good,by have:=hI.un;omega⟩ (by omega) rfl rfl
  ·rw [u1.2 R (by have:=hI.un;omega) (by omega)];exact hI.r
  ·rw [u1.2 U hI.un (by omega)];exact hI.u
  ·refine hI.os.mono u1.1 fun j hj=>u1.2 j (hI.os.at_lt hj).2 (by have:=hI.ge j hj;omega)
 | succ k ih =>
  intro i g fa fs hk hi hI
  refine Ad Cu.eq_1 ?_
  obtain ⟨v,g1,e1,v0,v1,n1,u1,t1⟩:=Bv (bar:=bar) hI.ts 3 (by omega) (by omega) (by omega)
  have w1:IntKind.i64.wrap (1+v)=1+v:=BN (by omega) (by omega)
  have hun:=hI.un
  have hI1:UI g1 bar R T U L p m fa fs:=⟨t1,by rw [u1.2 R (by omega) (by omega)];exact hI.r,by rw [u1.2 U hI.un (by omega)];exact hI.u,hI.os.mono u1.1 fun j hj=>u1.2 j (hI.os.at_lt hj).2 (by have:=hI.ge j hj;omega),hI.ge,hI.good,by omega⟩
  by_cases c:(i:Int)<1+v
  ·have hi3:i<3:=by omega
   have hi5:(i:Int)<5:=by omega
   have hnm:=bW hi3
   obtain ⟨v2,g2,e2,v20,v21,n2,u2,t2⟩:=Bv (bar:=bar) t1 3 (by omega) (by omega) (by omega)
   have hT2:=t2.lt
   have nb:bar≤g2.n:=by omega
   obtain ⟨g3,hg3⟩:∃ g3,g3=(g2.alloc (.cells [.int .i32 0,.int .i64 0,.str ⟨#[]⟩] 0)).set g2.n (.cells [.int .i32 (IJ i),.int .i64 v2,.str ⟨#[]⟩] 0):=⟨_,rfl⟩
   have u3:Up T g2 g3:=by rw [hg3];exact ⟨by simp [AW,AP],fun j hj _=>by rw [AU,if_neg (by omega),AK,if_neg (by omega)]⟩
   have n3:g3.n=g2.n+1:=by rw [hg3];simp [AW,AP]
   have hF3:g3.get g2.n=some (.cells [.int .i32 (IJ i),.int .i64 v2,.str ⟨#[]⟩] 0):=by rw [hg3,AU,if_pos rfl]
   have t3:TS g3 T L:=t2.up u3 (by rw [hg3,AU,if_neg (by omega),AK,if_neg (by omega)])
   obtain ⟨n,g4,e3,n0,n4',n4,u4,t4⟩:=Bv (bar:=bar) t3 4 (by omega) (by omega) (by omega)
   obtain ⟨n,rfl⟩:∃ k:Nat,n=(k:Nat):=⟨n.toNat,by omega⟩
   have U4:Up T g1 g4:=u2.trans (u3.trans u4)
   have hI4:UI g4 bar R T U L p m fa fs:=⟨t4,by rw [U4.2 R (by omega) (by omega)];exact hI1.r,by rw [U4.2 U (by omega) (by omega)];exact hI1.u,hI1.os.mono U4.1 fun j hj=>U4.2 j (hI1.os.at_lt hj).2 (by have:=hI.ge j hj;omega),hI.ge,hI.good,by omega⟩
   have hfa:¬ fa.isAt T:=fun q=>by have:=hI.ge T q;omega
   have hfl:=hI.good.1
   have hv4:FV g4 fa fs:=hI4.os.vw (by omega)
   rw [hg3] at e3
   simp [go_sem,e1,w1,c]
   refine ⟨⟨?_,?_⟩,?_⟩
   ·refine Ab rfl ?_
    simp [-getElem?_pos,An,Ai,Aa,AS,AT,List.take,List.take_succ_cons,List.take_zero,go_sem,AB,PD,AJ,hi5,hnm,e2,AX,Af,AL]
   ·refine Ab rfl ?_
    simp [-getElem?_pos,An,Ai,Aa,AS,AT,List.take,List.take_succ_cons,List.take_zero,go_sem,AB,PD,AJ,hi5,hnm,e2,AX,Af,AL]
   ·simp [-getElem?_pos,go_sem,AB,PD,AJ,hi5,hnm,e2,AX,Af,AL,nb,e3]
    refine aT (by omega) hI.good.fns (by omega) hv4 hfa p m hI4.u hI4.un (by omega) _ _ _ _ n g4 ⟨#[]⟩ (Up.refl _ _) t4 (Cd.nil.le (by omega)) (fun e g5 s q2 q3 q4 q5 q6 q7 u5 t5 hs=>?_) (by omega)
    obtain ⟨d,g6,e6,⟨lv,cv,av⟩,u6,t6⟩:=PY hI.good.fns (by omega) 3 3 (by omega) (by omega) (by omega) bar T g5 fa (by omega) t5 (Vw.up hv4 u5 hfa) hfa
    have U6:Up T g4 g6:=u5.trans u6
    have hI6:UI g6 bar R T U L p m fa fs:=⟨t6,by rw [U6.2 R (by omega) (by omega)];exact hI4.r,by rw [U6.2 U (by omega) (by omega)];exact hI4.u,hI4.os.mono U6.1 fun j hj=>U6.2 j (hI4.os.at_lt hj).2 (by have:=hI.ge j hj;omega),hI.ge,hI.good,by have:=U6.1;omega⟩
    have hF6:g6.get g2.n=some (.cells [.int .i32 (IJ i),.int .i64 v2,.str ⟨#[]⟩] 0):=(U6.2 g2.n (by omega) (by omega)).trans ((u4.2 g2.n (by omega) (by omega)).trans hF3)
    obtain ⟨_,_,_,zd⟩:=id cv
    have hvb:vB (3:Int).toNat=174:=rfl
    have zs:=hs.size
    have w2:IntKind.i64.wrap ((s.size:Int)+(d.size:Int))=(s.size:Int)+(d.size:Int):=BN (by omega) (by omega)
    
    obtain ⟨d',hd',c',hc',hcode⟩:∃ d':ByteArray,((400:Int)<(s.size:Int)+(d.size:Int)→d'=⟨#[32,53]⟩)∧(¬ (400:Int)<(s.size:Int)+(d.size:Int)→d'=d)∧s.size+d'.size≤400∧∃ l,Code (s++d') l 400∧Alive l:=by
     obtain ⟨ls,cs⟩:=hs
     by_cases q:(400:Int)<(s.size:Int)+(d.size:Int)
     ·have c5:Code ⟨#[32,53]⟩ [⟨48,PI 0 [53],0⟩] 2:=⟨[32,53],JN [32,53] _ rfl,Tx.num (ds:=[53]) (by decide) (by simp) (by simp),Nat.le_refl _⟩
      exact ⟨⟨#[32,53]⟩,fun _=>rfl,fun e=>absurd q e,by have:(ByteArray.mk #[32,53]).size=2:=rfl;omega,_,(cs.app c5).le (by omega),Alive.plain _ rfl⟩
     ·obtain ⟨r,w,x,z⟩:=cs.app cv
      exact ⟨d,fun e=>absurd e q,fun _=>rfl,by omega,ls++lv,⟨r,w,x,by rw [ByteArray.size_append];omega⟩,Alive.app _ av⟩
    have gsz:s.size+d'.size≤9223372036854775807:=by omega
    obtain ⟨g7,hg7⟩:∃ g7,g7=g6.set g2.n (.cells [.int .i32 (IJ i),.int .i64 v2,.str (s++d')] 0):=⟨_,rfl⟩
    have n7:g7.n=g6.n:=by rw [hg7];rfl
    have hF6n:g2.n<g6.n:=by have:=U6.1;omega
    have f7:∀ j,j≠g2.n→g7.get j=g6.get j:=fun j hj=>by rw [hg7,AU,if_neg hj]
    have hfaF:¬ fa.isAt g2.n:=fun q=>by have:=hI1.os.at_lt q;omega
    have os7:OS 3 g7 bar fa fs.length (fs.flatMap Fn.cells):=by rw [hg7];exact hI6.os.set _ hfaF
    obtain ⟨a',g8,e8,o8,n8,f8,ge8⟩:=os7.app (by omega) 32 [.int .i32 (IJ i),.int .i64 v2,.str (s++d')] rfl rfl (by omega) (by omega) (by omega)
    have hU8:g8.get U=some (.cells [.int .i64 p,.int .i64 m,fa] 0):=by
     rw [f8 U (by omega) (fun q=>by have:=hI.ge U q;omega),f7 U (by omega)];exact hI6.u
    have fr8:∀ j,j<g6.n→j≠g2.n→¬ fa.isAt j→g8.get j=g6.get j:=fun j h1 h2 h3=>by rw [f8 j (by omega) h3,f7 j h2]
    have hbU:bar≤U:=by omega
    have hbF:bar≤g2.n:=by omega
    obtain ⟨f,hf⟩:∃ f:Fn,f=⟨IJ fs.length,v2,s++d'⟩:=⟨_,rfl⟩
    have o9:OS 3 (g8.set U (.cells [.int .i64 p,.int .i64 m,a'] 0)) bar a' (fs++[f]).length ((fs++[f]).flatMap Fn.cells):=by
     have:=o8.set (id:=U) (.cells [.int .i64 p,.int .i64 m,a'] 0) (fun q=>by have:=ge8 U q;omega)
     rw [hf,List.length_append,List.flatMap_append]
     rw [hi] at this
     exact this
    have hlen:(fs++[f]).length=i+1:=by simp [hi]
    obtain ⟨ra,e9,hra⟩:=Vf (bar:=bar) (p:=p) (m:=m) (fs++[f]) i (o9.vw (by omega))
    have hfi:(fs++[f])[i]'(by omega)=f:=by simp [hi]
    have hcN:=RY (fs:=fs++[f]) (k:=i) (by omega)
    rw [hfi] at hcN
    rw [hcN] at e9
    have hw:IntKind.i64.wrap ((i:Int)+1)=((i+1:Nat):Int):=BF (by omega)
    rw [hg7] at e8
    simp only [AW] at e8
    have hI9:∀ gf a fs',(∀ j,j<g6.n→j≠g2.n→¬ fa.isAt j→j≠U→gf.get j=g6.get j)→gf.get U=some (.cells [.int .i64 p,.int .i64 m,a] 0)→OS 3 gf bar a fs'.length (fs'.flatMap Fn.cells)→(∀ j,a.isAt j→U<j)→g6.n≤gf.n→GoodU fs'→UI gf bar R T U L p m a fs':=fun gf a fs' h1 h2 h3 h4 h5 h6 =>
     ⟨t6.keep h5 (fun j hj=>h1 j (by omega) (by omega) (fun q=>by have:=hI.ge j q;omega) (by omega)),by rw [h1 R (by omega) (by omega) (fun q=>by have:=hI.ge R q;omega) (by omega)];exact hI6.r,h2,h3,h4,h6,by omega⟩
    have hgU5:=(u5.2 U (by omega) (by omega)).trans hI4.u
    have l5:=hI4.os.len
    have hone:=hI4.os.one
    have hUF:U≠g2.n:=by omega
    have hone9:=o8.one
    obtain ⟨id,all,ea,hbid,hid9,hgid,hall,hx9,_,hset⟩:=o9.elems Fn.cells_len (by simp)
    rw [hlen] at ea hall
    have hgeid:g7.n<id:=ge8 id (by rw [ea];rfl)
    have hidU:id≠U:=by omega
    have hg8id:g8.get id=some (.cells all 0):=by rw [← hgid,AU,if_neg hidU]
    have hle:i*3+2+1≤all.length:=by omega
    have hlt1:(i:Int)<(i:Int)+1:=by omega
    have hgood:(Fj (fs++[f]) f.code).2=0→GoodU (fs++[f]):=fun hz=>by
     rw [hf] at hz ⊢
     exact hI.good.snoc (by omega) ⟨v20,by omega⟩ hcode hz
    have hgo1:(Fj (fs++[f]) f.code).2=0→CW (call tb prim) bar [2,3,4,5] Cu [(2,.ptr R 0),(3,.ptr T 0),(4,.ptr U 0),(5,.int .i64 ((i+1:Nat):Int))] (g8.set U (.cells [.int .i64 p,.int .i64 m,a'] 0)) Q:=fun hz =>
     ih (i+1) _ a' (fs++[f]) (by omega) (by rw [hlen]) (hI9 _ _ _ (fun j h1 h2 h3 h4=>by rw [AU,if_neg h4];exact fr8 j h1 h2 h3) (by rw [AU,if_pos rfl]) o9 (fun j q=>by have:=ge8 j q;omega) (by rw [AW];omega) (hgood hz))
    have hgo2:CW (call tb prim) bar [2,3,4,5] Cu [(2,.ptr R 0),(3,.ptr T 0),(4,.ptr U 0),(5,.int .i64 ((i+1:Nat):Int))] ((g8.set U (.cells [.int .i64 p,.int .i64 m,a'] 0)).set id (.cells (AL all (i*3+2) [.str ⟨#[97,32,49,43]⟩]) 0)) Q:=by
     have hs:=hset i f ⟨IJ fs.length,v2,⟨#[97,32,49,43]⟩⟩ 2 [.str ⟨#[97,32,49,43]⟩] ((g8.set U (.cells [.int .i64 p,.int .i64 m,a'] 0)).set id (.cells (AL all (i*3+2) [.str ⟨#[97,32,49,43]⟩]) 0)) (by rw [List.getElem?_eq_getElem (by omega),hfi]) (by simp) (by rw [hf];rfl) rfl (by rw [AW];exact Nat.le_refl _) (by rw [AU,if_pos rfl])
     have hse:(fs++[f]).set i ⟨IJ fs.length,v2,⟨#[97,32,49,43]⟩⟩=fs++[⟨IJ fs.length,v2,⟨#[97,32,49,43]⟩⟩]:=by
      rw [hi,List.set_append_right _ _ (Nat.le_refl _)];simp
     rw [hse] at hs
     refine ih (i+1) _ a' _ (by omega) (by simp [hi]) (hI9 _ _ _ (fun j h1 h2 h3 h4=>?_) ?_ hs (fun j q=>by have:=ge8 j q;omega) (by rw [AW,AW];omega) ?_)
     ·rw [AU,if_neg (by omega),AU,if_neg h4];exact fr8 j h1 h2 h3
     ·rw [AU,if_neg (fun q=>hidU q.symm),AU,if_pos rfl]
     ·exact hI.good.snoc (by omega) ⟨v20,by omega⟩ ⟨a1p,Sc.le (by omega),WL⟩ (ar _)
    by_cases cq:(400:Int)<(s.size:Int)+(d.size:Int)
    ·have hd'':=hd' cq
     subst hd''
     have hsb:=CO gsz
     simp [go_sem,AB,q2,q3,q4,q5,q6,q7,hgU5,e6,w2,cq,hsb,hF6,hbF,hI6.u,hUF,AX,Af,AL,e8,hU8,hbU,hone9,e9]
     by_cases hz:(Fj (fs++[f]) f.code).2=0
     ·simp [go_sem,hz,hw]
      exact hgo1 hz
     ·have hzb:((Fj (fs++[f]) f.code).2 != 0)=true:=by simpa using hz
      simp [go_sem,AB,hzb,hw,ea,AJ,hlt1,hidU,hg8id,hbid,hle,VW,YM,GO]
      rw [ea] at hgo2
      exact hgo2
    ·have hd'':=c' cq
     subst hd''
     have hsb:=CO gsz
     simp [go_sem,AB,q2,q3,q4,q5,q6,q7,hgU5,e6,w2,cq,hsb,hF6,hbF,hI6.u,hUF,AX,Af,AL,e8,hU8,hbU,hone9,e9]
     by_cases hz:(Fj (fs++[f]) f.code).2=0
     ·simp [go_sem,hz,hw]
      exact hgo1 hz
     ·have hzb:((Fj (fs++[f]) f.code).2 != 0)=true:=by simpa using hz
      simp [go_sem,AB,hzb,hw,ea,AJ,hlt1,hidU,hg8id,hbid,hle,VW,YM,GO]
      rw [ea] at hgo2
      exact hgo2
  ·simp [go_sem,e1,w1,c]
   exact hq _ g1 fa fs hI1 (by omega) rfl rfl
end
end Go.Ev
namespace Go.Ev
open Go
theorem cR (a b c u v w:AV):AL [a,b,c] 0 [u,v,w]=[u,v,w]:=Eq.trans rfl rfl
theorem Yj (l:List Fn):(l.flatMap Fn.cells).all AV.still=true:=by
 rw [List.all_eq_true];intro y hy;rw [List.mem_flatMap] at hy;obtain ⟨u,_,hy⟩:=hy;simp [Fn.cells] at hy;rcases hy with rfl | rfl | rfl<;>rfl
section
variable {bar:Nat} {h:H} {la:AV} {L:List Int}
theorem Vw.at_lt {k:Nat} {h:H} {a:AV} {n:Nat} {cs:List AV} (v:Vw k h a n cs) {j:Nat} (hj:a.isAt j):j<h.n:=by
 obtain ⟨h1,h2,⟨rfl,_⟩ | ⟨full,rfl⟩ | ⟨id,off,full,all,p,rfl,e2,_⟩⟩:=v
 ·exact hj.elim
 ·exact hj.elim
 ·cases hj;exact e2
theorem Xg (hv:Vw 1 h la L.length (L.flatMap i64c)):∃ p m fa fs,call tb prim EP [la] bar h=some (.agg [.int .i64 p,.int .i64 m,fa],h)∧FzV 3 fa fs.length (fs.flatMap Fn.cells)∧GoodU fs∧(0≤p∧p<m∧m≤6∧1≤fs.length):=by
 obtain ⟨r,hc,p,m,fa,fs,rfl,k⟩:=CG (o:=call tb prim) (F:=f_engramkeep_Unit) (bar:=bar) (h:=h) (args:=[la]) (P:=fun r=>∃ p m fa fs,r=.agg [.int .i64 p,.int .i64 m,fa]∧FzV 3 fa fs.length (fs.flatMap Fn.cells)∧GoodU fs∧(0≤p∧p<m∧m≤6∧1≤fs.length)) rfl rfl (fun K hK=>by
  have hla:=hv.one
  obtain ⟨h2,hh2⟩:∃ h2,h2=(h.alloc (.cells [.int .i64 0,.int .i64 0,.nilsl] 0)).alloc (.cells [la,.int .i64 0] 0):=⟨_,rfl⟩
  have n2:h2.n=h.n+2:=by rw [hh2];simp [AP]
  have hag:Ag h.n h h2:=by rw [hh2];exact (Ag.alloc _ (Nat.le_refl _)).trans (Ag.alloc _ (by simp [AP]))
  have t2:TS h2 (h.n+1) L:=⟨la,0,by rw [hh2];simp [AK,AP],by omega,fun j hj=>by have:=hv.at_lt hj;omega,hv.mono hag (Nat.le_refl _),by omega⟩
  have r2:h2.get h.n=some (.cells [.int .i64 0,.int .i64 0,.nilsl] 0):=by rw [hh2];simp [AK,AP]
  obtain ⟨v,g1,e1,v0,v1,n1,u1,t1⟩:=Bv (bar:=h.n) t2 3 (by omega) (by omega) (by omega)
  obtain ⟨g2,hg2⟩:∃ g2,g2=(g1.alloc (.cells [.int .i64 0,.int .i64 0,.nilsl] 0)).set g1.n (.cells [.int .i64 v,.int .i64 0,.nilsl] 0):=⟨_,rfl⟩
  have u2:Up (h.n+1) g1 g2:=by rw [hg2];exact ⟨by simp [AW,AP],fun j hj _=>by rw [AU,if_neg (by omega),AK,if_neg (by omega)]⟩
  have t2':TS g2 (h.n+1) L:=t1.up u2 (by rw [hg2,AU,if_neg (by omega),AK,if_neg (by omega)])
  have n3:g2.n=g1.n+1:=by rw [hg2];simp [AW,AP]
  obtain ⟨x,g3,e3,x0,x1,n4,u3,t3⟩:=Bv (bar:=h.n) t2' 3 (by omega) (by omega) (by omega)
  have hU2:g2.get g1.n=some (.cells [.int .i64 v,.int .i64 0,.nilsl] 0):=by rw [hg2,AU,if_pos rfl]
  have hU3:g3.get g1.n=some (.cells [.int .i64 v,.int .i64 0,.nilsl] 0):=(u3.2 g1.n (by omega) (by omega)).trans hU2
  have hbU:h.n≤g1.n:=by omega
  have w1:IntKind.i64.wrap (v+1)=v+1:=BN (by omega) (by omega)
  have w2:IntKind.i64.wrap (v+1+x)=v+1+x:=BN (by omega) (by omega)
  rw [hh2] at e1
  rw [hg2] at e3
  simp [f_engramkeep_Unit,AO,go_sem,AB,AX,Af,Fe,AL,hla,e1,hbU]
  refine ⟨?_,?_⟩
  ·refine Ab rfl ?_
   simp [An,Ai,Aa,AS,AT,List.take,List.take_succ_cons,List.take_zero,go_sem,AB,w1,e3,hU3,hbU,AL,w2]
  ·simp [go_sem,AB,w1,e3,hU3,hbU,AL,w2]
   have hI:UI (g3.set g1.n (.cells [.int .i64 v,.int .i64 (v+1+x),.nilsl] 0)) h.n h.n (h.n+1) g1.n L v (v+1+x) .nilsl []:={
    ts:=t3.keep (by rw [AW];exact Nat.le_refl _) fun j hj=>by rw [AU,if_neg (by omega)]
    r:=by rw [AU,if_neg (by omega),u3.2 h.n (by omega) (by omega),hg2,AU,if_neg (by omega),AK,if_neg (by omega),u1.2 h.n (by omega) (by omega)];exact r2
    u:=by rw [AU,if_pos rfl]
    os:=OS.nil
    ge:=fun j hj=>hj.elim
    good:=GoodU.nil
    un:=by rw [AW];omega }
   refine aU (Nat.le_refl _) (by omega) (by omega) _ (fun e g fa fs hI hfl q2 q4=>?_) 3 0 _ .nilsl [] (by omega) rfl hI
   obtain ⟨fa',h',e1',fz⟩:=OS.freeze (h:=g.set h.n (.cells [.int .i64 v,.int .i64 (v+1+x),fa] 0)) (hI.os.set _ (fun q=>by have:=hI.ge _ q;omega)) (Yj fs) (by have:=hI.good.1;omega) 1
   simp [go_sem,AB,q2,q4,hI.u,hI.r,hI.os.one,cR]
   simp [go_sem,Bf,AA,AE,AD,AV.free.freeL,AF,AC,AD,AU,e1',fz.free,AV.free]
   exact hK _ ⟨_,_,_,_,rfl,fz,hI.good,by omega,by omega,by omega,hfl⟩)
 exact ⟨p,m,fa,fs,AQ OK hc,k⟩
end
end Go.Ev
namespace Go.Ev
open Go
def wI (x:Int):Int:=IntKind.i64.wrap x
def Xi (a b:Int):Int:=wI ((BitVec.ofInt 64 a &&& BitVec.ofInt 64 b).toNat:Nat)
def fC (a b:Int):Int:=wI ((BitVec.ofInt 64 a ||| BitVec.ofInt 64 b).toNat:Nat)
def eu (a b:Int):Int:=wI ((BitVec.ofInt 64 a ^^^ BitVec.ofInt 64 b).toNat:Nat)
def Sh (p:Bool):Int:=if p then 1 else 0
def LO (sg a b:Int):Int × Int :=
 if b=0 then (0,3) else
 if sg=37∧b=-1 then (0,0) else
 if sg=37 then (a.tmod b,0) else
 if a=-9223372036854775808∧b=-1 then (0,4) else (wI (a.tdiv b),0)
def DX (sg a b:Int):Int × Int :=
 if sg=43 then (wI (a+b),0) else
 if sg=45 then (wI (a - b),0) else
 if sg=42 then (wI (a*b),0) else
 if sg=47∨sg=37 then LO sg a b else
 if sg=38 then (Xi a b,0) else
 if sg=124 then (fC a b,0) else
 if sg=94 then (eu a b,0) else
 if sg=60 then (Sh (decide (a<b)),0) else
 if sg=61 then (Sh (a == b),0) else
 if sg=33 then (Sh (a == 0),0) else
 if sg=171 then (wI (a*2 ^ (b % 64).toNat),0) else
 if sg=187 then (a.fdiv (2 ^ (b % 64).toNat),0) else (0,2)
structure Mem where
 b:List Int
 most:Int
 dirty:List Bool
def Er (wide:Bool):Int:=if wide then 8 else 1
def Ee (m:Mem) (at':Int) (wide:Bool):Bool:=decide (0≤at')&&decide (at'≤(m.b.length:Int) - Er wide)
def KK:List Int→Int
 | []=>0
 | x::r=>x+256*KK r
def TM:Nat→Int→List Int
 | 0,_=>[]
 | k+1,n=>n % 256::TM k (n / 256)
def Ix (m:Mem) (at':Int) (wide:Bool):Int × Bool :=
 if Ee m at' wide then (wI (KK ((m.b.drop at'.toNat).take (Er wide).toNat)),true) else (0,false)
def Pw (d:List Bool) (at':Nat):Nat→List Bool
 | 0=>d
 | k+1=>Pw (d.set (at' / 64) true) (at'+1) k
def Tc (b:List Int) (at':Nat) (l:List Int):List Int:=b.take at'++l++b.drop (at'+l.length)
def IF (m:Mem) (at' n:Int) (wide:Bool):Mem × Bool :=
 if Ee m at' wide then (⟨Tc m.b at'.toNat (TM (Er wide).toNat n),m.most,Pw m.dirty at'.toNat (Er wide).toNat⟩,true) else (m,false)
def Gi (m:Mem) (n:Int):Mem × Int :=
 if n<0∨n > m.most - m.dirty.length then (m,-1) else
 (⟨m.b++List.replicate (n.toNat*64) 0,m.most,m.dirty++List.replicate n.toNat true⟩,m.dirty.length)
structure Row where
 l:List (Int × Bool)
 asks:List (Int × Int)
def FY (r:Row) (nm n:Int):Row × Int × Bool:=match r.l with
 | []=>(⟨[],r.asks++[(nm,n)]⟩,0,true)
 | x::l=>(⟨l,r.asks++[(nm,n)]⟩,x.1,x.2)
structure Code' where
 l:List Tok
 to:List Int
 args:Int
structure Fm where
 c:Code'
 at':Nat
 loc:List Int
 st:List Int
structure Mc where
 fr:List Fm
 m:Mem
 r:Row
 trap:Int
def Fh (ok:Bool) (t:Int) (s:Int):Int:=if ok then s else t
def Qt (sg:Int) (st:List Int) (m:Mem) (tr:Int):Option (List Int × Mem × Int) :=
 if sg=64∨sg=169 then (match st with | []=>none | a::st=>some ((Ix m a (sg == 64)).1::st,m,Fh (Ix m a (sg == 64)).2 5 tr)) else
 if sg=36∨sg=174 then (match st with | n::a::st=>some (st,(IF m a n (sg == 36)).1,Fh (IF m a n (sg == 36)).2 5 tr) | _=>none) else
 if sg=35 then some ((m.dirty.length:Int)::st,m,tr) else
 (match st with | []=>none | a::st=>some ((Gi m a).2::st,(Gi m a).1,tr))
def Ig (t:Tok) (st:List Int) (r:Row) (tr:Int):Option (List Int × Row × Int) :=
 if t.sign=46 then (match st with | []=>none | a::st=>some (a::a::st,r,tr)) else
 if t.sign=44 then (match st with | []=>none | _::st=>some (st,r,tr)) else
 if t.sign=59∨t.sign=91 then some (st,r,tr) else
 if t.sign=161 then some (st,r,2) else
 if t.sign=960 then (match st with | []=>none | a::st=>some ((FY r t.name a).2.1::st,(FY r t.name a).1,Fh (FY r t.name a).2.2 7 tr)) else
 if t.sign=33 then (match st with | []=>none | a::st=>some ((DX t.sign a 0).1::st,r,Fh ((DX t.sign a 0).2 == 0) (DX t.sign a 0).2 tr)) else
 (match st with | b::a::st=>some ((DX t.sign a b).1::st,r,Fh ((DX t.sign a b).2 == 0) (DX t.sign a b).2 tr) | _=>none)
def Bb (sg:Int):Bool:=decide (sg=64∨sg=169∨sg=36∨sg=174∨sg=35∨sg=164)
def Cs (sg:Int):Bool:=decide (sg=63∨sg=58∨sg=93∨sg=126)
def Ef (k:Nat) (st:List Int):List Int:=(st.take k).reverse
def Fc (c:Code') (args:List Int):Fm:=⟨c,0,args.take 26++List.replicate (26 - args.length) 0,[]⟩
def IZ (fs:List Fn) (cs:List Code') (s:Mc):Option Mc:=match s.fr with
 | []=>none
 | f::r=>match f.c.l[f.at']? with
  | none=>none
  | some t =>
   if t.sign=48 then some { s with fr:={ f with at':=f.at'+1,st:=t.n::f.st }::r } else
   if 97≤t.sign∧t.sign≤122 then (match f.loc[(t.sign - 97).toNat]? with | none=>none | some v=>some { s with fr:={ f with at':=f.at'+1,st:=v::f.st }::r }) else
   if 65≤t.sign∧t.sign≤90 then (match f.st with | []=>none | v::st=>some { s with fr:={ f with at':=f.at'+1,st:=st,loc:=f.loc.set (t.sign - 65).toNat v }::r }) else
   if t.sign=955 then
    (match cs[(Ay t.name fs 0).toNat]? with
    | none=>none
    | some c =>
     if Ay t.name fs 0<0∨c.args<0∨(f.st.length:Int)<c.args then none else
     if 32≤s.fr.length then some { s with fr:={ f with at':=f.at'+1,st:=f.st.drop c.args.toNat }::r,trap:=6 } else
     some { s with fr:=Fc c (Ef c.args.toNat f.st)::{ f with at':=f.at'+1,st:=f.st.drop c.args.toNat }::r }) else
   if Cs t.sign then
    (if t.sign=63 then (match f.st with
     | []=>none
     | v::st=>if v≠0 then some { s with fr:={ f with at':=f.at'+1,st:=st }::r } else (match f.c.to[f.at']? with | none=>none | some j=>if j<0 then none else some { s with fr:={ f with at':=j.toNat,st:=st }::r }))
    else (match f.c.to[f.at']? with | none=>none | some j=>if j<0 then none else some { s with fr:={ f with at':=j.toNat }::r })) else
   if Bb t.sign then (match Qt t.sign f.st s.m s.trap with | none=>none | some (st,m,tr)=>some { s with fr:={ f with at':=f.at'+1,st:=st }::r,m:=m,trap:=tr }) else
   (match Ig t f.st s.r s.trap with | none=>none | some (st,ro,tr)=>some { s with fr:={ f with at':=f.at'+1,st:=st }::r,r:=ro,trap:=tr })
def EC:Fm→List Fm→Option (List Fm × Option Int)
 | f,r=>if f.at'<f.c.l.length then some (f::r,none) else match f.st with
  | []=>none
  | v::_=>match r with
   | []=>some ([],some v)
   | g::r=>EC { g with st:=v::g.st } r
def DO (fs:List Fn) (cs:List Code'):Nat→Mc→Option (Mc × Int × Nat)
 | n,s=>if s.trap≠0 then some (s,0,n) else match s.fr with
  | []=>none
  | f::r=>match EC f r with
   | none=>none
   | some (fr,some v)=>some ({ s with fr:=fr },v,n)
   | some (fr,none)=>match n with
    | 0=>some ({ s with fr:=fr,trap:=1 },0,0)
    | n+1=>match IZ fs cs { s with fr:=fr } with
     | none=>none
     | some s'=>DO fs cs n s'
end Go.Ev
namespace Go.Ev
open Go
theorem eJ {x:Int} (h1:-9223372036854775808≤x) (h2:x≤9223372036854775807):wI x=x:=by
 unfold wI;rw [IntKind.wrap_i64];omega
def M1 (c:Code') (m:Mem) (r:Row) (i:Nat) (loc st:List Int):Mc:=⟨[⟨c,i,loc,st⟩],m,r,0⟩
def tk (x:Int):Tok:=⟨x,0,0⟩
def nu (n:Int):Tok:=⟨48,n,0⟩
def Rn (fs:List Fn) (cs:List Code') (k:Nat) (s s':Mc):Prop:=∀ n,DO fs cs (n+k) s=DO fs cs n s'
def Rb (fs:List Fn) (cs:List Code') (B:Nat) (s s':Mc):Prop:=∃ k,k≤B∧Rn fs cs k s s'
section
variable {fs:List Fn} {cs:List Code'} {k l B C:Nat} {s t u:Mc}
theorem Rb.refl:Rb fs cs 0 s s:=⟨0,Nat.le_refl _,fun _=>rfl⟩
theorem Rn.trans (h:Rn fs cs k s t) (g:Rn fs cs l t u):Rn fs cs (k+l) s u:=fun n=>by
 rw [show n+(k+l)=n+l+k by omega,h,g]
theorem Rb.trans (h:Rb fs cs B s t) (g:Rb fs cs C t u):Rb fs cs (B+C) s u:=by
 obtain ⟨k,hk,h⟩:=h
 obtain ⟨l,hl,g⟩:=g
 exact ⟨k+l,by omega,h.trans g⟩
theorem Rb.le (h:Rb fs cs B s t) (hB:B≤C):Rb fs cs C s t:=by
 obtain ⟨k,hk,h⟩:=h
 exact ⟨k,by omega,h⟩
end
theorem RL (a:Int) (k:Nat) (hk:k≤62):Xi a (2 ^ k - 1)=a % 2 ^ k:=by
 have hp:(2:Nat) ^ k≤2 ^ 62:=Nat.pow_le_pow_right (by omega) hk
 have h1:1≤(2:Nat) ^ k:=Nat.one_le_two_pow
 have hc:((2:Int) ^ k - 1)=((2 ^ k - 1:Nat):Int):=by
  rw [Int.natCast_sub h1];norm_cast
 unfold Xi
 rw [BitVec.toNat_and,hc,BitVec.toNat_ofInt,BitVec.toNat_ofInt]
 have e2:(((2 ^ k - 1:Nat):Int) % ((2 ^ 64:Nat):Int)).toNat=2 ^ k - 1:=by
  rw [← Int.natCast_emod,Int.toNat_natCast,Nat.mod_eq_of_lt]
  have:(2:Nat) ^ 62<2 ^ 64:=by decide
  omega
 rw [e2,Nat.and_two_pow_sub_one_eq_mod]
 have e3:(((a % ((2 ^ 64:Nat):Int)).toNat % 2 ^ k:Nat):Int)=a % 2 ^ k:=by
  rw [Int.natCast_emod,Int.toNat_of_nonneg (Int.emod_nonneg _ (by decide))]
  have e4:((2 ^ k:Nat):Int)=(2:Int) ^ k:=Int.natCast_pow 2 k
  have e5:((2 ^ 64:Nat):Int)=(2:Int) ^ 64:=Int.natCast_pow 2 64
  rw [e4,e5]
  exact Int.emod_emod_of_dvd a ⟨2 ^ (64 - k),by rw [← Int.pow_add,show k+(64 - k)=64 by omega]⟩
 rw [e3]
 have b1:0≤a % 2 ^ k:=Int.emod_nonneg _ (by have:(0:Int)<2 ^ k:=Int.pow_pos (by omega);omega)
 have b2:a % 2 ^ k<2 ^ k:=Int.emod_lt_of_pos _ (Int.pow_pos (by omega))
 have b3:((2:Int) ^ k)≤2 ^ 62:=by exact_mod_cast hp
 exact eJ (by omega) (by omega)
end Go.Ev
namespace Go.Ev
open Go
def OW (k:Nat) (h:H) (bar:Nat) (a:AV) (n:Nat) (cs:List AV):Prop :=
 cs.length=n*k∧cs.all AV.one=true∧((a=.nilsl∧n=0)∨∃ id rest full,a=.sl id 0 k n full∧bar≤id∧id<h.n∧h.get id=some (.cells (cs++rest) 0))
section
variable {k:Nat} {h h':H} {bar:Nat} {a:AV} {n:Nat} {cs:List AV}
theorem OW.nil:OW k h bar .nilsl 0 []:=⟨by simp,rfl,.inl ⟨rfl,rfl⟩⟩
theorem OS.ow (v:OS k h bar a n cs):OW k h bar a n cs:=by
 obtain ⟨h1,h2,h3 | ⟨id,rest,e1,e2,e3,e4⟩⟩:=v
 ·exact ⟨h1,h2,.inl h3⟩
 ·exact ⟨h1,h2,.inr ⟨id,rest,false,e1,e2,e3,e4⟩⟩
theorem OW.mono (v:OW k h bar a n cs) (hn:h.n≤h'.n) (g:∀ j,a.isAt j→h'.get j=h.get j):OW k h' bar a n cs:=by
 obtain ⟨h1,h2,h3 | ⟨id,rest,full,e1,e2,e3,e4⟩⟩:=v
 ·exact ⟨h1,h2,.inl h3⟩
 ·exact ⟨h1,h2,.inr ⟨id,rest,full,e1,e2,by omega,by rw [g id (by rw [e1];rfl)];exact e4⟩⟩
theorem OW.bar_le {b:Nat} (v:OW k h bar a n cs) (hb:b≤bar):OW k h b a n cs:=by
 obtain ⟨h1,h2,h3 | ⟨id,rest,full,e1,e2,e3,e4⟩⟩:=v
 ·exact ⟨h1,h2,.inl h3⟩
 ·exact ⟨h1,h2,.inr ⟨id,rest,full,e1,by omega,e3,e4⟩⟩
theorem OW.up {b:Nat} (v:OW k h bar a n cs) (hb:∀ j,a.isAt j→b≤j):OW k h b a n cs:=by
 obtain ⟨h1,h2,h3 | ⟨id,rest,full,e1,e2,e3,e4⟩⟩:=v
 ·exact ⟨h1,h2,.inl h3⟩
 ·exact ⟨h1,h2,.inr ⟨id,rest,full,e1,hb id (by rw [e1];rfl),e3,e4⟩⟩
theorem OW.one (v:OW k h bar a n cs):a.one=true:=by
 obtain ⟨_,_,⟨rfl,_⟩ | ⟨id,rest,full,rfl,_⟩⟩:=v<;>rfl
theorem OW.len (v:OW k h bar a n cs) (g:H):GC (some a) g=some (As n,g):=by
 obtain ⟨_,_,⟨rfl,rfl⟩ | ⟨id,rest,full,rfl,_⟩⟩:=v<;>rfl
theorem OW.at_lt (v:OW k h bar a n cs) {j:Nat} (hj:a.isAt j):bar≤j∧j<h.n:=by
 obtain ⟨_,_,⟨rfl,rfl⟩ | ⟨id,rest,full,rfl,g1,g2,_⟩⟩:=v
 ·exact hj.elim
 ·cases hj;exact ⟨g1,g2⟩
theorem OW.vw (v:OW k h bar a n cs) (hn:n≤9223372036854775807):Vw k h a n cs:=by
 obtain ⟨h1,h2,⟨rfl,e⟩ | ⟨id,rest,full,e1,e2,e3,e4⟩⟩:=v
 ·exact ⟨h1,hn,.inl ⟨rfl,e⟩⟩
 ·refine ⟨h1,hn,.inr (.inr ⟨id,0,full,_,0,e1,e3,e4,by rw [List.length_append,h1];omega,?_⟩)⟩
  rw [List.drop_zero,← h1];exact List.take_left ..
theorem OW.appA (v:OW k h bar a n cs) (hb:bar≤h.n) (bytes m:Nat) (xs:List AV) (hm:m≠0) (hx:xs.length=m*k) (hx1:xs.all AV.one=true) (hs:(n+m)*bytes≤140737488355328) (hs':n+m≤9223372036854775807) :
  ∃ h',Ch bar k bytes h a m xs=some (.sl h.n 0 k (n+m) false,h')∧OW k h' bar (.sl h.n 0 k (n+m) false) (n+m) (cs++xs)∧h'.n=h.n+1∧(∀ j,j<h.n→¬ a.isAt j→h'.get j=h.get j):=by
 obtain ⟨h1,h2,h3⟩:=v
 have hl:(cs++xs).length=(n+m)*k:=by rw [List.length_append,h1,hx,Nat.add_mul]
 have ha:(cs++xs).all AV.one=true:=by rw [List.all_append,h2,hx1];rfl
 rcases h3 with ⟨rfl,rfl⟩ | ⟨id,rest,full,rfl,g1,g2,g3⟩
 ·have:cs=[]:=List.length_eq_zero_iff.mp (by rw [h1];simp)
  subst this
  refine ⟨h.alloc (.cells xs 0),?_,⟨hl,ha,.inr ⟨h.n,[],false,rfl,hb,by simp [AP],by simp [AK]⟩⟩,by simp [AP],fun j hj _=>by rw [AK,if_neg (by omega)]⟩
  simp only [Ch]
  rw [if_neg hm,if_pos ⟨by simpa using hs,by omega⟩,Nat.zero_add]
 ·have ht:((cs++rest).drop 0).take (n*k)=cs:=by rw [List.drop_zero,← h1,List.take_left]
  cases full with
  | true =>
   refine ⟨h.alloc (.cells (cs++xs) 0),?_,⟨hl,ha,.inr ⟨h.n,[],false,rfl,hb,by simp [AP],by simp [AK]⟩⟩,by simp [AP],fun j hj _=>by rw [AK,if_neg (by omega)]⟩
   simp only [Ch,if_true]
   rw [if_neg hm,g3]
   simp only
   rw [if_pos ⟨by simp [h1],hs,hs'⟩,ht]
  | false =>
   refine ⟨(h.kill id).alloc (.cells (cs++xs) 0),?_,⟨hl,ha,.inr ⟨h.n,[],false,rfl,hb,by simp [AP,Hy],by simp [AK,Hy]⟩⟩,by simp [AP,Hy],fun j hj hj2=>?_⟩
   ·simp only [Ch,if_true]
    rw [if_neg hm,g3]
    simp only
    rw [if_pos ⟨by simp [h1],hs,hs'⟩,if_neg (by simp),if_pos ⟨g1,by omega⟩,ht,Nat.zero_sub]
   ·have:j≠id:=fun e=>hj2 e.symm
    simp only [AK,Hy,Lw]
    rw [if_neg (by omega),if_neg this]
theorem OW.app (v:OW k h bar a n cs) (hb:bar≤h.n) (bytes:Nat) (xs:List AV) (hx:xs.length=k) (hx1:xs.all AV.one=true) (hk:0<k) (hs:(n+1)*bytes≤140737488355328) (hs':n<9223372036854775807) :
  ∃ h',HM bar k bytes (some a) (some (.sl h.n 0 k 1 true)) (h.alloc (.cells xs 0))=some (.sl (h.n+1) 0 k (n+1) false,h')∧OW k h' bar (.sl (h.n+1) 0 k (n+1) false) (n+1) (cs++xs)∧h'.n=h.n+2∧(∀ j,j<h.n→¬ a.isAt j→h'.get j=h.get j):=by
 have hsrc:source k (h.alloc (.cells xs 0)) (.sl h.n 0 k 1 true)=some (1,xs):=by
  simp [source,AK,← hx]
 have v':OW k (h.alloc (.cells xs 0)) bar a n cs:=v.mono (by simp [AP]) fun j hj=>by have:=v.at_lt hj;rw [AK,if_neg (by omega)]
 obtain ⟨h',e1,o1,n1,f1⟩:=v'.appA (by rw [AP];omega) bytes 1 xs (by omega) (by rw [hx];omega) hx1 hs (by omega)
 simp only [AP] at e1 o1 n1 f1
 refine ⟨h',?_,o1,by omega,fun j hj hj2=>by rw [f1 j (by omega) hj2,AK,if_neg (by omega)]⟩
 simp only [HM,hsrc,if_pos hk]
 exact e1
theorem OW.cases (v:OW k h bar a n cs) (hn:n≠0):∃ id all full,a=.sl id 0 k n full∧bar≤id∧id<h.n∧h.get id=some (.cells all 0)∧n*k≤all.length∧all.take (n*k)=cs∧cs.length=n*k∧(∀ j,j<n*k→all[j]? = cs[j]?) ∧
  (∀ (g:H) (i:Nat) (vs:List AV),i+vs.length≤n*k→vs.all AV.one=true→h.n≤g.n→g.get id=some (.cells (AL all i vs) 0)→OW k g bar a n (AL cs i vs)) ∧
  (∀ (g:H) (m:Nat) (full':Bool),m≤n→h.n≤g.n→g.get id=h.get id→OW k g bar (.sl id 0 k m full') m (cs.take (m*k))):=by
 obtain ⟨h1,h2,⟨_,e⟩ | ⟨id,rest,full,e1,e2,e3,e4⟩⟩:=v
 ·exact absurd e hn
 ·refine ⟨id,cs++rest,full,e1,e2,e3,e4,by rw [List.length_append];omega,by rw [← h1];exact List.take_left ..,h1,fun j hj=>List.getElem?_append_left (by omega),fun g i vs hi hv hg hget=>?_,fun g m full' hm hg hget=>?_⟩
  ·have hsp:AL (cs++rest) i vs=AL cs i vs++rest:=by
    unfold AL
    rw [List.take_append_of_le_length (by omega),List.drop_append_of_le_length (by omega),List.append_assoc,List.append_assoc,List.append_assoc]
   refine ⟨?_,?_,.inr ⟨id,rest,full,e1,e2,by omega,by rw [hget,hsp]⟩⟩
   ·unfold AL;simp;omega
   ·unfold AL
    rw [List.all_eq_true] at h2 hv ⊢
    intro x hx
    rw [List.mem_append,List.mem_append] at hx
    rcases hx with (hx | hx) | hx
    ·exact h2 x (List.mem_of_mem_take hx)
    ·exact hv x hx
    ·exact h2 x (List.mem_of_mem_drop hx)
  ·have hmk:m*k≤n*k:=Nat.mul_le_mul_right k hm
   refine ⟨by rw [List.length_take];omega,?_,.inr ⟨id,cs.drop (m*k)++rest,full',rfl,e2,by omega,by rw [hget,e4,← List.append_assoc,List.take_append_drop]⟩⟩
   rw [List.all_eq_true] at h2 ⊢
   exact fun x hx=>h2 x (List.mem_of_mem_take hx)
end
end Go.Ev
namespace Go.Ev
open Go
end Go.Ev
namespace Go.Ev
open Go
def FO (pages:Nat) (most:Int):Mem:=⟨List.replicate (pages*64) 0,most,List.replicate pages false⟩
end Go.Ev
set_option linter.unusedSectionVars false
namespace Go.Ev
open Go
def BG (la ta:AV) (a:Int) (p:Nat) (loc:List Int) (sa:AV):List AV:=la::ta::.int .i64 a::.int .i64 p::(loc.map (AV.int .i64)++[sa])
section
variable {la ta sa v:AV} {a:Int} {p:Nat} {loc:List Int}
theorem Fy (h:loc.length=26):(BG la ta a p loc sa).length=31:=by simp [BG,h]
theorem Po (h:loc.length=26):(BG la ta a p loc sa)[30]? = some sa:=by
 simp [BG,h]
theorem Yv:(BG la ta a p loc sa)[0]? = some la:=rfl
theorem Yw:(BG la ta a p loc sa)[1]? = some ta:=rfl
theorem Oc:(BG la ta a p loc sa)[3]? = some (.int .i64 p):=rfl
theorem ZN {i:Nat} {x:Int} (h:loc[i]? = some x):(BG la ta a p loc sa)[4+i]? = some (.int .i64 x):=by
 have hi:=(List.getElem?_eq_some_iff.mp h).1
 show (la::ta::AV.int .i64 a::AV.int .i64 p::(loc.map (AV.int .i64)++[sa]))[4+i]? = _
 rw [show 4+i=i+1+1+1+1 by omega]
 simp only [List.getElem?_cons_succ]
 rw [List.getElem?_append_left (by simpa using hi)]
 simp [h]
theorem Nf (h:loc.length=26):AL (BG la ta a p loc sa) 30 [v]=BG la ta a p loc v:=by
 have:(loc.map (AV.int .i64)).length=26:=by simpa using h
 unfold AL BG
 have e1:(la::ta::AV.int .i64 a::AV.int .i64 p::(loc.map (AV.int .i64)++[sa])).take 30=la::ta::.int .i64 a::.int .i64 p::loc.map (AV.int .i64):=by
  simp only [List.take_succ_cons]
  rw [List.take_append_of_le_length (by omega),List.take_of_length_le (by omega)]
 rw [e1]
 have e2:(la::ta::AV.int .i64 a::AV.int .i64 p::(loc.map (AV.int .i64)++[sa])).drop (30+[v].length)=[]:=by
  apply List.drop_eq_nil_of_le;simp [h]
 rw [e2];simp
theorem Lv {q:Nat}:AL (BG la ta a p loc sa) 3 [.int .i64 q]=BG la ta a q loc sa:=rfl
theorem VP {i:Nat} {x:Int} (hi:i<loc.length):AL (BG la ta a p loc sa) (4+i) [.int .i64 x]=BG la ta a p (loc.set i x) sa:=by
 unfold AL BG
 rw [show 4+i=i+1+1+1+1 by omega]
 simp only [List.take_succ_cons]
 rw [List.take_append_of_le_length (by simp;omega)]
 have e2:(la::ta::AV.int .i64 a::AV.int .i64 p::(loc.map (AV.int .i64)++[sa])).drop (i+1+1+1+1+[AV.int .i64 x].length)=(loc.map (AV.int .i64)).drop (i+1)++[sa]:=by
  show (la::ta::AV.int .i64 a::AV.int .i64 p::(loc.map (AV.int .i64)++[sa])).drop (i+1+1+1+1+1)=_
  rw [show i+1+1+1+1+1=(i+1)+1+1+1+1 by omega]
  simp only [List.drop_succ_cons]
  rw [List.drop_append_of_le_length (by simp;omega)]
 rw [e2,List.map_set,List.set_eq_take_append_cons_drop,if_pos (by simpa using hi)]
 simp
end
def HV (st:List Int):List AV:=st.reverse.map (AV.int .i64)
theorem RD (st:List Int):(HV st).length=st.length:=by simp [HV]
theorem PU (n:Int) (st:List Int):HV (n::st)=HV st++[.int .i64 n]:=by simp [HV]
theorem Us (n:Int) (st:List Int):(HV (n::st))[st.length]? = some (.int .i64 n):=by
 rw [PU,List.getElem?_append_right (by rw [RD];omega),RD,Nat.sub_self];rfl
theorem aN (n:Int) (st:List Int):(HV (n::st)).take (st.length*1)=HV st:=by
 rw [PU,Nat.mul_one,← RD st];exact List.take_left ..
structure FrV (g:H) (b:Nat) (f:Fm) (id:Nat) (la ta sa:AV):Prop where
 get:g.get id=some (.cells (BG la ta f.c.args f.at' f.loc sa) 0)
 bid:b≤id
 lt:id<g.n
 loc:f.loc.length=26
 st:OW 1 g b sa f.st.length (HV f.st)
 ne:¬ sa.isAt id
 small:f.st.length≤3000000
 at1:f.at'≤100000
section
variable {bar b:Nat} {g:H} {f:Fm} {id:Nat} {la ta sa:AV}
theorem FrV.mono {g':H} (v:FrV g b f id la ta sa) (hn:g.n≤g'.n) (h1:g'.get id=g.get id) (h2:∀ j,sa.isAt j→g'.get j=g.get j):FrV g' b f id la ta sa :=
 ⟨by rw [h1];exact v.get,v.bid,by have:=v.lt;omega,v.loc,v.st.mono hn h2,v.ne,v.small,v.at1⟩
theorem aB (v:FrV g b f id la ta sa) (hb:bar≤b) (hbg:b≤g.n) (hs:f.st.length<3000000) (n:Int) :
  ∃ g' sa',call tb prim Az [.ptr id 0,.int .i64 n] bar g=some (.tup [],g')∧FrV g' b { f with st:=n::f.st } id la ta sa'∧(∀ j,sa'.isAt j→g.n≤j)∧g.n≤g'.n∧∀ j,j<g.n→j≠id→¬ sa.isAt j→g'.get j=g.get j:=by
 obtain ⟨h',e2,o2,n1,f1⟩:=(v.st.bar_le hb).app (bar:=bar) (by omega) 8 [.int .i64 n] rfl rfl (by omega) (by omega) (by omega)
 have o1:OW 1 h' b (.sl (g.n+1) 0 1 (f.st.length+1) false) (f.st.length+1) (HV f.st++[.int .i64 n]):=o2.up fun j hj=>by cases hj;omega
 have hl:=v.loc
 have hid:=v.lt
 have hget:=v.get
 have h30:(BG la ta f.c.args f.at' f.loc sa)[30]? = some sa:=Po hl
 have hle:30+1≤(BG la ta f.c.args f.at' f.loc sa).length:=by rw [Fy hl];omega
 have hs30:AL (BG la ta f.c.args f.at' f.loc sa) 30 [.sl (g.n+1) 0 1 (f.st.length+1) false]=BG la ta f.c.args f.at' f.loc (.sl (g.n+1) 0 1 (f.st.length+1) false):=Nf hl
 have hg':h'.get id=some (.cells (BG la ta f.c.args f.at' f.loc sa) 0):=by rw [f1 id hid v.ne];exact hget
 have hbid:bar≤id:=Nat.le_trans hb v.bid
 obtain ⟨cs,hcs⟩:∃ cs,cs=BG la ta f.c.args f.at' f.loc sa:=⟨_,rfl⟩
 rw [← hcs] at hget h30 hle hs30 hg'
 have hfin:∃ sa',(AV.tup [])=.tup []∧FrV (h'.set id (.cells (BG la ta f.c.args f.at' f.loc (.sl (g.n+1) 0 1 (f.st.length+1) false)) 0)) b { f with st:=n::f.st } id la ta sa'∧(∀ j,sa'.isAt j→g.n≤j)∧g.n≤(h'.set id (.cells (BG la ta f.c.args f.at' f.loc (.sl (g.n+1) 0 1 (f.st.length+1) false)) 0)).n∧∀ j,j<g.n→j≠id→¬ sa.isAt j→(h'.set id (.cells (BG la ta f.c.args f.at' f.loc (.sl (g.n+1) 0 1 (f.st.length+1) false)) 0)).get j=g.get j:=by
  refine ⟨.sl (g.n+1) 0 1 (f.st.length+1) false,rfl,⟨by simp [AU],v.bid,by simp [AW];omega,hl,?_,?_,by simp;omega,v.at1⟩,fun j hj=>by cases hj;omega,by simp [AW];omega,fun j h1 h2 h3=>by rw [AI h2];exact f1 j h1 h3⟩
  ·have:HV (n::f.st)=HV f.st++[.int .i64 n]:=PU n f.st
   show OW 1 _ b _ (n::f.st).length _
   rw [this]
   exact o1.mono (by simp [AW]) (fun j hj=>by cases hj;rw [AI (by omega)])
  ·intro hj;cases hj;omega
 obtain ⟨r,g',hc,sa',rfl,k⟩:=Aj (o:=call tb prim) (F:=f_engine_frame_push) (bar:=bar) (h:=g) (args:=[.ptr id 0,.int .i64 n]) (P:=fun r g'=>∃ sa',r=.tup []∧FrV g' b { f with st:=n::f.st } id la ta sa'∧(∀ j,sa'.isAt j→g.n≤j)∧g.n≤g'.n∧∀ j,j<g.n→j≠id→¬ sa.isAt j→g'.get j=g.get j) rfl rfl (fun K hK=>by
  simp [f_engine_frame_push,AO,go_sem,AB,AG,hget,h30,AX,Af,ID,e2,hg',hle,hs30,hbid]
  simp [go_sem,AN,AM,AA,AE,AD,AC,AV.free.freeL,AV.free,AF,AH]
  exact ⟨_,_,⟨rfl,rfl⟩,hK _ _ hfin⟩)
 exact ⟨g',sa',AQ Ma hc,k⟩
theorem bu {n:Int} {st:List Int} (v:FrV g b f id la ta sa) (hst:f.st=n::st) (hb:bar≤b) :
  ∃ g' sa',call tb prim Au [.ptr id 0] bar g=some (.int .i64 n,g')∧FrV g' b { f with st:=st } id la ta sa'∧(∀ j,sa'.isAt j→sa.isAt j)∧g'.n=g.n∧∀ j,j≠id→g'.get j=g.get j:=by
 have hl:=v.loc
 have hget:=v.get
 have hsm:=v.small
 have hos:=v.st
 rw [hst] at hos hsm
 simp only [List.length_cons] at hos hsm
 obtain ⟨sid,all,full,rfl,hbs,hsl,hgs,hle,htk,hcl,hgi,_,hcut⟩:=hos.cases (by omega)
 have hne:sid≠id:=v.ne
 have h30:(BG la ta f.c.args f.at' f.loc (.sl sid 0 1 (st.length+1) full))[30]? = some (.sl sid 0 1 (st.length+1) full):=Po hl
 have hle30:30+1≤(BG la ta f.c.args f.at' f.loc (.sl sid 0 1 (st.length+1) full)).length:=by rw [Fy hl];omega
 have hs30:∀ v,AL (BG la ta f.c.args f.at' f.loc (.sl sid 0 1 (st.length+1) full)) 30 [v]=BG la ta f.c.args f.at' f.loc v:=fun _=>Nf hl
 have hbid:bar≤id:=Nat.le_trans hb v.bid
 have htop:all[st.length]? = some (.int .i64 n):=by rw [hgi _ (by omega)];exact Us n st
 have hw:IntKind.i64.wrap (st.length:Int)=(st.length:Nat):=BN (by omega) (by omega)
 have hlt:st.length<st.length+1:=by omega
 have hltI:(st.length:Int)<(st.length:Int)+1:=by omega
 have hc:=fun (g':H) (fl:Bool) (h1:g.n≤g'.n) (h2:g'.get sid=g.get sid)=>hcut g' st.length fl (by omega) h1 h2
 rw [aN] at hc
 have hsl2:BI 1 (.sl sid 0 1 (st.length+1) full) none (some (.int .i64 (st.length:Nat))) none=some (.sl sid 0 1 st.length (full&&decide (st.length=st.length+1))):=by
  simp [BI,AY,BL]
 obtain ⟨cs,hcs⟩:∃ cs,cs=BG la ta f.c.args f.at' f.loc (.sl sid 0 1 (st.length+1) full):=⟨_,rfl⟩
 rw [← hcs] at hget h30 hle30 hs30
 obtain ⟨fl,hfl⟩:∃ fl,fl=(full&&decide (st.length=st.length+1)):=⟨_,rfl⟩
 rw [← hfl] at hsl2
 have hfin:∃ sa',(AV.int .i64 n)=.int .i64 n∧FrV (g.set id (.cells (BG la ta f.c.args f.at' f.loc (.sl sid 0 1 st.length fl)) 0)) b { f with st:=st } id la ta sa'∧(∀ j,sa'.isAt j→(AV.sl sid 0 1 (st.length+1) full).isAt j)∧(g.set id (.cells (BG la ta f.c.args f.at' f.loc (.sl sid 0 1 st.length fl)) 0)).n=g.n∧∀ j,j≠id→(g.set id (.cells (BG la ta f.c.args f.at' f.loc (.sl sid 0 1 st.length fl)) 0)).get j=g.get j :=
  ⟨.sl sid 0 1 st.length fl,rfl,⟨by simp [AU],v.bid,v.lt,hl,hc _ fl (by simp [AW]) (AI hne),hne,by show st.length≤_;omega,v.at1⟩,fun j hj=>hj,rfl,fun j h1=>AI h1⟩
 obtain ⟨r,g',hcall,sa',rfl,k⟩:=Aj (o:=call tb prim) (F:=f_engine_frame_pop) (bar:=bar) (h:=g) (args:=[.ptr id 0]) (P:=fun r g'=>∃ sa',r=.int .i64 n∧FrV g' b { f with st:=st } id la ta sa'∧(∀ j,sa'.isAt j→(AV.sl sid 0 1 (st.length+1) full).isAt j)∧g'.n=g.n∧∀ j,j≠id→g'.get j=g.get j) rfl rfl (fun K hK=>by
  simp [f_engine_frame_pop,AO,go_sem,AB,AG,hget,h30,hw,hltI,AJ,hgs,htop,hle30,hs30,hbid,Ap,hsl2]
  simp [go_sem,AN,AM,AA,AE,AD,AC,AV.free.freeL,AV.free,AF,AH]
  exact ⟨_,_,⟨rfl,rfl⟩,hK _ _ hfin⟩)
 exact ⟨g',sa',AQ NJ hcall,k⟩
end
end Go.Ev
