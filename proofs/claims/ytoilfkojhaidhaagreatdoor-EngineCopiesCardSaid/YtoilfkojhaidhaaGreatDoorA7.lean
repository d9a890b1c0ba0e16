/- Part 7 of the proof that a law of this seat (the one that GOCLAIM.json names) returns true for every argument; nothing is assumed. -/
import Derived.Test.YtoilfkojhaidhaaGreatDoorA6
set_option linter.unusedSimpArgs false
set_option linter.unusedVariables false
set_option linter.all false
set_option linter.unusedSectionVars false
namespace Go.Ev
open Go
theorem FzV.drop {k:Nat} {a:AV} {n:Nat} {cs:List AV} (v:FzV k a n cs) {i:Nat} (hi:i≤n):∃ a',BI k a (some (.int .i64 (i:Int))) none none=some a'∧FzV k a' (n - i) (cs.drop (i*k)):=by
 obtain ⟨h1,h2,⟨rfl,rfl⟩ | ⟨full,rfl⟩⟩:=v
 ·have hi0:i=0:=by omega
  subst hi0
  refine ⟨.nilsl,by simp [BI,AY,BL],by simp [h1],by omega,.inl ⟨rfl,rfl⟩⟩
 ·have e1:AY 0 (some (AV.int .i64 (i:Int)))=some i:=by simp [AY,BL]
  have e2:∀ n,AY n none=some n:=fun _=>rfl
  refine ⟨.fz k (n - i) ((cs.drop (i*k)).take ((n - i)*k)) (full&&decide (n=n)),?_,?_,by omega,?_⟩
  ·simp only [BI,e1,e2]
   rw [if_pos ⟨trivial,h1,by omega,Nat.le_refl _⟩]
  ·rw [List.length_drop,h1,Nat.sub_mul]
  ·exact .inr ⟨_,by rw [List.take_of_length_le (by rw [List.length_drop,h1,Nat.sub_mul];exact Nat.le_refl _)]⟩
theorem Xj (r:Row) (nm n:Int):∃ l,(FY r nm n).1.asks=r.asks++l:=by
 unfold FY;split<;>exact ⟨_,rfl⟩
theorem Va {t:Tok} {st st':List Int} {r r':Row} {tr tr':Int} (h:Ig t st r tr=some (st',r',tr')):∃ l,r'.asks=r.asks++l:=by
 unfold Ig at h
 repeat' split at h
 all_goals first
  | cases h;exact Xj _ _ _
  | cases h;exact ⟨[],by simp⟩
  | cases h
theorem XN {fs:List Fn} {cs:List Code'} {s s':Mc} (h:IZ fs cs s=some s'):∃ l,s'.r.asks=s.r.asks++l:=by
 unfold IZ at h
 repeat' split at h
 all_goals first
  | cases h;done
  | (rename_i hm;cases h;exact Va hm)
  | cases h;exact ⟨[],by simp⟩
theorem Tf {fs:List Fn} {cs:List Code'}:∀ (n:Nat) {s s':Mc} {v:Int} {n':Nat},DO fs cs n s=some (s',v,n')→∃ l,s'.r.asks=s.r.asks++l
 | n,s,s',v,n',h=>by
  unfold DO at h
  split at h
  ·cases h;exact ⟨[],by simp⟩
  ·split at h
   ·cases h
   ·split at h
    ·cases h
    ·cases h;exact ⟨[],by simp⟩
    ·split at h
     ·cases h;exact ⟨[],by simp⟩
     ·split at h
      ·cases h
      ·rename_i hs
       obtain ⟨l1,h1⟩:=XN hs
       obtain ⟨l2,h2⟩:=Tf _ h
       exact ⟨l1++l2,by rw [h2,h1];simp⟩
theorem Jj (a b c d u v w x:AV):AL [a,b,c,d] 0 [u,v,w,x]=[u,v,w,x]:=Eq.trans rfl rfl
theorem Iu {z:List AV} {off n:Nat} {v:AV} {r:List (Nat × Nat × AV)} (h1:v.cells.length=n) (h2:off+n≤z.length) (h3:v.cells.all AV.one=true):Af z ((off,n,v)::r)=Af (AL z off v.cells) r:=by
 rw [Af,if_pos ⟨h1,h2,h3⟩]
theorem CL {z:List AV} {off:Nat} {v:AV} {r:List (Nat × Nat × AV)} (h:v.one=true) (h2:off+1≤z.length):Af z ((off,1,v)::r)=Af (AL z off [v]) r:=by
 have e:=GO h
 rw [Iu (by rw [e];rfl) h2 (by rw [e];simp [h]),e]
theorem dH (p mo:Int) {fa ca:AV} (h1:fa.one=true) (h2:ca.one=true) (M R:Nat):Af [.int .i64 0,.int .i64 0,.nilsl,.nilsl,.nilptr,.nilptr,.nilsl,.int .i64 0,.int .i64 0] [(0,3,.agg [.int .i64 p,.int .i64 mo,fa]),(3,1,ca),(4,1,.ptr M 0),(5,1,.ptr R 0)]=some [.int .i64 p,.int .i64 mo,fa,ca,.ptr M 0,.ptr R 0,.nilsl,.int .i64 0,.int .i64 0]:=by
 rw [Iu (n:=3) (v:=.agg [.int .i64 p,.int .i64 mo,fa]) rfl (by simp) (by
  show (true&&(true&&(fa.one&&true)))=true
  rw [h1];rfl),CL h2 (by simp [AL,AV.cells]),CL rfl (by simp [AL,AV.cells]),CL rfl (by simp [AL,AV.cells])]
 rfl
theorem dE (a b c:Int) {d:AV} (h:d.one=true):Af [.int .i64 0,.int .i64 0,.int .i64 0,.nilsl] [(0,1,.int .i64 a),(1,1,.int .i64 b),(2,1,.int .i64 c),(3,1,d)]=some [.int .i64 a,.int .i64 b,.int .i64 c,d]:=by
 rw [CL rfl (by simp),CL rfl (by simp [AL]),CL rfl (by simp [AL]),CL h (by simp [AL])]
 rfl
def IB (v tr n:Int) (aa:AV):AV:=.tup [.agg [.int .i64 v,.int .i64 tr,.int .i64 n,aa],.int .i64 0]
section
variable {bar:Nat} {g:H} {own:Nat→Nat} {fa aa:AV} {fs:List Fn} {p mo:Int} {M R:Nat} {m:Mem} {r:Row}
theorem am (hv:FV g fa fs) (hfo:At own fa 0) (hm:MemO g bar own M m) (hr:RowO g bar own R r) (hbar:bar≤g.n) (hright:Co p mo fs=0) (hto:∀ f ∈ fs,WD f) (hsig:∀ f ∈ fs,∀ k ∈ (Bt f.code).1,EY k.sign=true) (harg:∀ f ∈ fs,0≤f.args∧f.args≤26) (hl32:fs.length≤32)
  {nm fuel:Int} (hf0:0≤fuel) (hf1:fuel≤1048576) {k:Nat} (hk:Ay nm fs 0=k) {f:Fn} (hf:fs[k]? = some f) {args:List Int} (haa:Vw 1 g aa args.length (args.map (AV.int .i64))) (hargs:f.args=args.length) (hra:r.asks.length≤900000)
  {s':Mc} {v:Int} {n':Nat} (hrun:DO fs (fs.map codeW) fuel.toNat ⟨[Fc (codeW f) args],m,r,0⟩=some (s',v,n')) :
  ∃ xa g' own' ids C,call tb prim Bo [.agg [.int .i64 p,.int .i64 mo,fa],.ptr M 0,.ptr R 0,.int .i32 nm,.int .i64 fuel,aa] bar g=some (IB v s'.trap n' xa,g')∧FzV 2 xa (s'.r.asks.length - r.asks.length) ((s'.r.asks.drop r.asks.length).flatMap asC)∧C.M=M∧C.R=R∧XO g' bar own' C s'.trap v ids∧MemO g' bar own' M s'.m∧RowO g' bar own' R s'.r∧Kp own tA g g'∧Agr g.n own own':=by
 
 obtain ⟨g1,hg1⟩:∃ g1,g1=(g.alloc (.cells [.int .i64 p,.int .i64 mo,fa] 0)).alloc (.cells [.int .i64 0,.int .i64 0,.int .i64 0,.nilsl] 0):=⟨_,rfl⟩
 have n1:g1.n=g.n+2:=by rw [hg1];simp [AP]
 have k1:∀ j,j<g.n→g1.get j=g.get j:=fun j hj=>by rw [hg1,AK,if_neg (by simp [AP];omega),AK,if_neg (by omega)]
 have gU:g1.get g.n=some (.cells [.int .i64 p,.int .i64 mo,fa] 0):=by rw [hg1,AK,if_neg (by simp [AP]),AK,if_pos rfl]
 have gC:g1.get (g.n+1)=some (.cells [.int .i64 0,.int .i64 0,.int .i64 0,.nilsl] 0):=by rw [hg1,AK,if_pos (by simp [AP])]
 have hv1:FV g1 fa fs:=hv.keep (by omega) (fun j hj=>k1 j (hv.at_lt' hj))
 have eR:=SQ (bar:=bar) (p:=p) (m:=mo) hv1
 rw [hright] at eR
 have eF:=HD (pr:=prim) (bar:=bar) (h:=g1) fs fa nm p mo hv1
 rw [hk] at eF
 have hkl:=(List.getElem?_eq_some_iff.mp hf).1
 have hfk:fs[k]=f:=(List.getElem?_eq_some_iff.mp hf).2
 obtain ⟨own1,hown1⟩:∃ own1,own1=ext own g.n 9:=⟨_,rfl⟩
 have kp1:Kp own (fun _=>False) g g1:=⟨by omega,fun j hj _=>k1 j hj⟩
 have ag1:Agr g.n own own1:=by rw [hown1];exact Agr.ext
 have m1:=hm.mono kp1 ag1 (by simp)
 have r1:=hr.mono kp1 ag1 (by simp)
 have r1':=r1
 obtain ⟨⟨rla,raa,hrv,_,_⟩,_⟩:=r1'
 obtain ⟨xa0,eA,hxa0⟩:=Ua (bar:=bar) hrv
 have hlenA:=hxa0.len
 obtain ⟨ca,rows,eC,hca,hrl,hrows⟩:=Pm (bar:=bar) (p:=p) (m:=mo) hv1 hto (by omega)
 
 obtain ⟨C,hC⟩:∃ C:Cx,C=⟨g1.n,p,mo,fa,fs,ca,rows,M,R⟩:=⟨_,rfl⟩
 have hCM:C.M=M:=by rw [hC]
 have hCR:C.R=R:=by rw [hC]
 have hCX:C.X=g1.n:=by rw [hC]
 have hCfs:C.fs=fs:=by rw [hC]
 have hCrows:C.rows=rows:=by rw [hC]
 obtain ⟨g2,hg2⟩:∃ g2,g2=g1.alloc (.cells [.int .i64 p,.int .i64 mo,fa,ca,.ptr M 0,.ptr R 0,.nilsl,.int .i64 0,.int .i64 0] 0):=⟨_,rfl⟩
 have n2:g2.n=g1.n+1:=by rw [hg2];simp [AP]
 obtain ⟨own2,hown2⟩:∃ own2,own2=ext own1 g1.n 1:=⟨_,rfl⟩
 have kp2:Kp own1 (fun _=>False) g1 g2:=by rw [hg2];exact Sd
 have ag2:Agr g1.n own1 own2:=by rw [hown2];exact Agr.ext
 have hfo1:At own1 fa 0:=fun j hj=>by rw [ag1 j (hv.at_lt' hj)];exact hfo j hj
 have cx1:CxV g1 own1 C:=by
  rw [hC]
  refine ⟨hv1,hfo1,hca,fun x hx=>?_⟩
  obtain ⟨j,hj⟩:=List.mem_iff_getElem?.mp hx
  obtain ⟨f2,hf2,e2,hcv⟩:=hrows j x hj
  refine ⟨hcv,?_⟩
  rw [e2];exact harg f2 (List.mem_of_getElem? hf2)
 have cx2:CxV g2 own2 C:=cx1.mono kp2 ag2 (by simp)
 have x2:XO g2 bar own2 C 0 0 []:=⟨⟨.nilsl,by rw [hCX,hg2,AK,if_pos rfl,hC];rfl,OW.nil,fun j hj=>hj.elim⟩,by rw [hCX,hown2];simp [ext],by rw [hCX];omega,by rw [hCX];omega,by simp⟩
 have m2:=m1.mono kp2 ag2 (by simp)
 have r2:=r1.mono kp2 ag2 (by simp)
 obtain ⟨x,hx⟩:∃ x,rows[k]? = some x:=⟨rows[k]'(by omega),List.getElem?_eq_getElem (by omega)⟩
 obtain ⟨f2,hf2,ex2,hcv2⟩:=hrows k x hx
 have:f2=f:=by rw [hf] at hf2;cases hf2;rfl
 subst this
 have haa2:Vw 1 g2 aa args.length (args.map (AV.int .i64)):=haa.keep (by omega) (fun j hj=>by have:=haa.at_lt' hj;rw [hg2,AK,if_neg (by omega)];exact k1 j this)
 obtain ⟨g3,own3,e3,x3,f3,k3,a3⟩:=Sm (bar:=bar) (args:=args) x2 cx2 (Nat.le_refl _) (by omega) (by rw [hCrows];exact hx) haa2 (by have:=(harg f2 (List.mem_of_getElem? hf)).2;omega) (by simp)
 have cx3:=cx2.mono k3 a3 (by omega)
 have m3:=m2.mono k3 a3 (by omega)
 have r3:=r2.mono k3 a3 (by omega)
 have hsmall:Ea [Fc x.2.2 args]=0:=rfl
 have xv3:XV g3 bar own3 C ⟨[Fc (codeW f2) args],m,r,0⟩ 0 [g2.n]:=⟨x3,cx3,⟨by rw [← ex2];exact f3,trivial⟩,by rw [hCM];exact m3,by rw [hCR];exact r3,by have:=k3.1;omega⟩
 have hmap:C.rows.map (·.2.2)=fs.map codeW:=by
  rw [hCrows]
  apply List.ext_getElem?
  intro j
  rw [List.getElem?_map,List.getElem?_map]
  cases hj:rows[j]? with
  | none =>
   have:fs[j]? = none:=by rw [List.getElem?_eq_none_iff] at hj ⊢;omega
   rw [this];rfl
  | some y =>
   obtain ⟨f4,h4,h5,_⟩:=hrows j y hj
   rw [h4];simp [h5]
 obtain ⟨lp,hlp⟩:=Tf _ hrun
 simp only at hlp
 have hws:(fuel.toNat:Int)=fuel:=Int.toNat_of_nonneg hf0
 
 obtain ⟨y,g9,hcall,xa,own',ids,rfl,q1,q2,q3,q4,q5,q6⟩:=Aj (o:=call tb prim) (F:=f_engine_Run) (bar:=bar) (h:=g) (args:=[.agg [.int .i64 p,.int .i64 mo,fa],.ptr M 0,.ptr R 0,.int .i32 nm,.int .i64 fuel,aa])
  (P:=fun y g'=>∃ xa own' ids,y=IB v s'.trap n' xa∧FzV 2 xa (s'.r.asks.length - r.asks.length) ((s'.r.asks.drop r.asks.length).flatMap asC)∧XO g' bar own' C s'.trap v ids∧MemO g' bar own' M s'.m∧RowO g' bar own' R s'.r∧Kp own tA g g'∧Agr g.n own own') rfl rfl (fun K hK=>by
  have d0:decide (fuel<0)=false:=by simpa using hf0
  have d1:decide (1048576<fuel)=false:=by simpa using hf1
  have dk:decide ((k:Int)<0)=false:=by simp
  have da:((args.length:Int) != f2.args)=false:=by rw [hargs];simp
  have hla:=haa.len
  simp [f_engine_Run,AO,go_sem,AB,AG,Bg,hv.one,d0,d1]
  rw [← hg1]
  simp [go_sem,AB,AG,gU,eR,eF,dk,hla,As]
  refine cu hv1 hkl fun u w=>?_
  rw [hfk]
  simp [go_sem,AB,AG,gU,da,eA,hlenA,As,eC]
  have hfX:=dH p mo hv.one hca.one M R
  have hoX:([.int .i64 p,.int .i64 mo,fa,ca,.ptr M 0,.ptr R 0,.nilsl,.int .i64 0,.int .i64 0]:List AV).all AV.one=true:=by
   show (true&&(true&&(fa.one&&(ca.one&&(true&&(true&&(true&&(true&&(true&&true)))))))))=true
   rw [hv.one,hca.one];rfl
  rw [hCX] at e3
  simp [go_sem,AB,AG,AX,hfX,AV.cells,hoX]
  rw [← hg2]
  simp [go_sem,AB,AG,e3]
  have hcs:∀ x ∈ C.rows,∀ k ∈ x.2.2.l,EY k.sign=true:=fun y hy k2 hk2=>by
   rw [hCrows] at hy
   obtain ⟨j,hj⟩:=List.mem_iff_getElem?.mp hy
   obtain ⟨f4,h4,h5,_⟩:=hrows j y hj
   rw [h5] at hk2
   exact hsig f4 (List.mem_of_getElem? h4) k2 hk2
  have hl:=fun Q hq=>YZ (bar:=bar) (b:=bar) (C:=C) (Nat.le_refl _) r.asks.length (g.n+1) hcs Q fuel.toNat g3 own3 ⟨[Fc (codeW f2) args],m,r,0⟩ [g2.n] (s':=s') (v:=v) (n':=n') xv3 (fun y hy k2 hk2=>by
   rw [List.mem_singleton] at hy;subst hy;exact hsig f2 (List.mem_of_getElem? hf) k2 hk2) (by show 0+0+fuel.toNat<_;omega) (by show r.asks.length+fuel.toNat<_;omega) (by simp) (by omega) (by rw [hCfs,hmap];exact hrun) hq
  simp only [hCR,hCX,hws] at hl
  refine hl _ (fun e g4 own4 hR k4 a4 ge2 ge4 ge12 ge16 ge17=>?_)
  obtain ⟨⟨ids,x4⟩,m4,r4,b4⟩:=hR
  rw [hCM] at m4
  rw [hCR] at r4
  have r4':=r4
  obtain ⟨⟨rla4,raa4,hrv4,_,_⟩,_⟩:=r4'
  obtain ⟨xa4,eA4,hxa4⟩:=Ua (bar:=bar) hrv4
  have hle4:r.asks.length≤s'.r.asks.length:=by rw [hlp];simp
  obtain ⟨xa5,eD,hxa5⟩:=hxa4.drop hle4
  rw [Ic (c:=asC) (k:=2) (fun _=>rfl)] at hxa5
  have x4':=x4
  obtain ⟨⟨fra,gx4,_,_⟩,_,_,_,_⟩:=x4'
  rw [hCX] at gx4
  obtain ⟨xc,hxc⟩:∃ xc,xc=xC C fra s'.trap v:=⟨_,rfl⟩
  have hx7:xc[7]? = some (.int .i64 s'.trap):=by rw [hxc];rfl
  have hx8:xc[8]? = some (.int .i64 v):=by rw [hxc];rfl
  rw [← hxc] at gx4
  have oC1:own1 (g.n+1)=9:=by rw [hown1];simp only [ext];rw [if_neg (by omega)]
  have oC2:own2 (g.n+1)=9:=by rw [ag2 _ (by omega)];exact oC1
  have oC3:own3 (g.n+1)=9:=by rw [a3 _ (by omega)];exact oC2
  have oC4:own4 (g.n+1)=9:=by rw [a4 _ (by have:=k3.1;omega)];exact oC3
  have gC2:g2.get (g.n+1)=some (.cells [.int .i64 0,.int .i64 0,.int .i64 0,.nilsl] 0):=by rw [kp2.2 _ (by omega) (by simp)];exact gC
  have gC3:g3.get (g.n+1)=some (.cells [.int .i64 0,.int .i64 0,.int .i64 0,.nilsl] 0):=by rw [k3.2 _ (by omega) (by rw [oC2];omega)];exact gC2
  have gC4:g4.get (g.n+1)=some (.cells [.int .i64 0,.int .i64 0,.int .i64 0,.nilsl] 0):=by rw [k4.2 _ (by have:=k3.1;omega) (by rw [oC3];unfold tA;omega)];exact gC3
  have hf4:=dE v s'.trap n' hxa5.one
  have hall:([.int .i64 v,.int .i64 s'.trap,.int .i64 n',xa5]:List AV).all AV.one=true:=by
   show (true&&(true&&(true&&(xa5.one&&true))))=true
   rw [hxa5.one];rfl
  have hsta:([.int .i64 v,.int .i64 s'.trap,.int .i64 n',xa5]:List AV).all AV.stay=true:=by
   show (true&&(true&&(true&&(xa5.stay&&true))))=true
   rw [hxa5.stay];rfl
  have hfre:([.int .i64 v,.int .i64 s'.trap,.int .i64 n',xa5]:List AV).all AV.free=true:=by
   show (true&&(true&&(true&&(xa5.free&&true))))=true
   rw [hxa5.free];rfl
  have hbC:bar≤g.n+1:=by omega
  obtain ⟨g5,hg5⟩:∃ g5,g5=g4.set (g.n+1) (.cells [.int .i64 v,.int .i64 s'.trap,.int .i64 n',xa5] 0):=⟨_,rfl⟩
  have k5:Kp own4 (fun k=>k=9) g4 g5:=⟨by rw [hg5,AW];exact Nat.le_refl _,fun j hj hs=>by rw [hg5,AI (fun q=>hs (by rw [q];exact oC4))]⟩
  have hfz:=fun d h=>Hr (bar:=bar) (d:=d) (h:=h) hsta
  have gC5:g5.get (g.n+1)=some (.cells [.int .i64 v,.int .i64 s'.trap,.int .i64 n',xa5] 0):=by rw [hg5,AU,if_pos rfl]
  have hw0:(([.int .i64 0,.int .i64 0,.int .i64 0,.nilsl]:List AV)).length=4:=rfl
  simp [go_sem,AB,AG,ge2,ge4,ge12,ge16,ge17,gx4,hx7,hx8,eA4,Ap,eD,AX,hf4,gC4,hbC,AV.cells,hall,Jj]
  rw [← hg5]
  simp [go_sem,AN,AM,AA,AE,AD,AC,AV.free.freeL,AV.free,AF,AH,gC5,AC,AD,hfz]
  have kk4:Kp own tA g g4:=(kp1.le fun k h=>h.elim).trans ag1 ((kp2.le fun k h=>h.elim).trans ag2 ((k3.le fun k h=>by unfold tA;have h':k=1∨k=2:=h;omega).trans a3 k4))
  have kk:Kp own tA g g5:=⟨by rw [hg5,AW];exact kk4.1,fun j hj hs=>by rw [hg5,AI (by omega)];exact kk4.2 j hj hs⟩
  have aa5:Agr g.n own own4:=Agr.trans ag1 (Agr.trans ag2 (Agr.trans a3 a4 k3.1) (by omega)) (by omega)
  exact ⟨_,_,⟨rfl,rfl⟩,hK _ _ ⟨xa5,own4,ids,rfl,hxa5,x4.mono k5 Agr.refl (by omega),m4.mono k5 Agr.refl (by omega),r4.mono k5 Agr.refl (by omega),kk,aa5⟩⟩)
 exact ⟨xa,_,own',ids,C,AQ Mo hcall,q1,hCM,hCR,q2,q3,q4,q5,q6⟩
end
end Go.Ev
set_option linter.unusedSectionVars false
namespace Go.Ev
open Go
theorem Qd {o:Oracle} {bar:Nat} {g:H} {v:AV} {n:Nat} {cs:List AV} (hv:Vw 1 g v n cs) {i:Nat} (hi:i<n) {y:AV} (hy:cs[i]? = some y) {cc d:Nat} {r:List IOper} {ks:List Fr} {e:Env} {Q:Ex→Env→H→Prop}
  (hw:∀ u,HC o bar r ks ((d,y)::(cc,u)::e) g Q):Lh o bar (Hu 1 (some v) (some (.int .i64 (i:Nat))) g) (some cc) (⟨some d,.ld false 1 (.t cc),none⟩::r) ks e Q:=by
 have hbi:(i:Int)<(n:Int):=by omega
 obtain ⟨hl,_,⟨rfl,h2⟩ | ⟨full,rfl⟩ | ⟨id,off,full,all,q,rfl,hid,hg,hle2,hc⟩⟩:=hv
 ·omega
 ·have hl2:(cs.length=n)=True:=by simpa using hl
  simp [go_sem,AJ,hi,hbi,hl2,hy]
  exact hw _
 ·have hrow2:all[off+i]? = some y:=by
   rw [← hy,← hc,List.getElem?_take,if_pos (by omega),List.getElem?_drop]
  simp [go_sem,AJ,hi,hbi,hg,hrow2]
  exact hw _
theorem Qe {A:Type} {c:A→List AV} {k:Nat} (hk:∀ x,(c x).length=k) {o:Oracle} {bar:Nat} {g:H} {v:AV} {l:List A} (hv:Vw k g v l.length (l.flatMap c)) {i:Nat} (hi:i<l.length) {cc d:Nat} {r:List IOper} {ks:List Fr} {e:Env} {Q:Ex→Env→H→Prop}
  (hw:∀ u,HC o bar r ks ((d,.agg (c l[i]))::(cc,u)::e) g Q):Lh o bar (Hu k (some v) (some (.int .i64 (i:Nat))) g) (some cc) (⟨some d,.ld true k (.t cc),none⟩::r) ks e Q:=by
 have hbi:(i:Int)<(l.length:Int):=by omega
 have hrow:=IL hk l i _ (List.getElem?_eq_getElem hi)
 have hle:i*k+k≤l.length*k:=by have:=Nat.mul_le_mul_right k hi;rw [Nat.succ_mul] at this;exact this
 obtain ⟨hl,_,⟨rfl,h2⟩ | ⟨full,rfl⟩ | ⟨id,off,full,all,q,rfl,hid,hg,hle2,hc⟩⟩:=hv
 ·omega
 ·generalize l.flatMap c=cs at *
  have hl':i*k+k≤cs.length:=by omega
  have hl2:(cs.length=l.length*k)=True:=by simpa using hl
  simp [go_sem,AJ,hi,hbi,hl2,hl',hrow]
  exact hw _
 ·have hrow2:(all.drop (off+i*k)).take k=c l[i]:=by
   rw [← hrow,← hc,List.drop_take,List.drop_drop,List.take_take,Nat.min_eq_left (by omega)]
  have hl2:off+i*k+k≤all.length:=by omega
  simp [go_sem,AJ,hi,hbi,hg,hl2,hrow2]
  exact hw _
theorem Vw.first {k:Nat} {h:H} {a:AV} {n:Nat} {cs:List AV} (v:Vw k h a n cs) {m:Nat} (hm:m≤n):∃ a',BI k a none (some (.int .i64 (m:Nat))) none=some a'∧Vw k h a' m (cs.take (m*k))∧(∀ j,a'.isAt j→a.isAt j):=by
 have e1:∀ x,AY x (some (AV.int .i64 (m:Nat)))=some m:=fun x=>by simp [AY,BL]
 have e2:∀ n,AY n none=some n:=fun _=>rfl
 have hmk:m*k≤n*k:=Nat.mul_le_mul_right k hm
 obtain ⟨hl,hn,⟨rfl,e⟩ | ⟨full,rfl⟩ | ⟨id,off,full,all,q,rfl,hid,hgi,hle,hc⟩⟩:=v
 ·have hm0:m=0:=by omega
  subst hm0
  exact ⟨.nilsl,by simp [BI,AY,BL],⟨by simp,by omega,.inl ⟨rfl,rfl⟩⟩,fun j hj=>hj⟩
 ·refine ⟨.fz k (m - 0) ((cs.drop (0*k)).take ((m - 0)*k)) (full&&decide (m=n)),?_,?_,fun j hj=>hj⟩
  ·simp only [BI,e1,e2]
   rw [if_pos ⟨trivial,hl,by omega,hm⟩]
  ·simp only [Nat.zero_mul,List.drop_zero,Nat.sub_zero]
   exact ⟨by rw [List.length_take,hl];omega,by omega,.inr (.inl ⟨_,rfl⟩)⟩
 ·refine ⟨.sl id (off+0*k) k (m - 0) (full&&decide (m=n)),?_,?_,fun j hj=>hj⟩
  ·simp only [BI,e1,e2]
   rw [if_pos ⟨trivial,by omega,hm⟩]
  ·simp only [Nat.zero_mul,Nat.add_zero,Nat.sub_zero]
   refine ⟨by rw [List.length_take,hl];omega,by omega,.inr (.inr ⟨id,off,_,all,q,rfl,hid,hgi,by omega,?_⟩)⟩
   rw [← hc,List.take_take,Nat.min_eq_left hmk]
def Sb (a:AV) (x:Int × Bool):Prop:=∀ bar h,call tb prim Hz [a] bar h=some (.tup [.int .i64 x.1,.bool x.2],h)
theorem Wx (n:Int):Sb (.ifc EI (.int .i64 n)) (n,true):=fun bar h=>by
 refine AQ UX (AZ rfl rfl (BJ ?_))
 simp [f_reply_Of,AO,go_sem,AN,AM,AA,AE,AD,AC,AV.free.freeL,AV.free,AF,AH]
section
variable {bar b R:Nat} {g:H}
theorem TR {va:AV} {vs:List AV} {xs:List (Int × Bool)} {n:Nat} (hlen:xs.length=n) (hn64:n≤64) (hof:∀ (i:Nat) (v:AV) x,vs[i]? = some v→xs[i]? = some x→Sb v x) (R:Nat) (hbR:bar≤R) (Q:Ex→Env→H→Prop):∀ (k i:Nat) (g:H) (la:AV),n=i+k→Vw 1 g va n vs→bar≤g.n→R<g.n→g.get R=some (.cells [la,.nilsl] 0)→OW 2 g (R+1) la i ((xs.take i).flatMap II)→(∀ j,va.isAt j→j<R) →
  (∀ e g' la',g'.get R=some (.cells [la',.nilsl] 0)→OW 2 g' (R+1) la' n (xs.flatMap II)→R<g'.n→(∀ j,j<R→g'.get j=g.get j)→e.get 3=some (.ptr R 0)→Q (.exit 0) e g') →
  CW (call tb prim) bar [3,14,15,16] GT [(3,.ptr R 0),(14,va),(15,As n),(16,As i)] g Q
 | 0,i,g,la,hk,hv,hb,hR,hg,ho,hva,hq=>by
  refine Ad GT.eq_1 ?_
  have hi:i=n:=by omega
  subst hi
  rw [List.take_of_length_le (by omega)] at ho
  simp [go_sem,As]
  exact hq _ _ _ hg ho hR (fun _ _=>rfl) rfl
 | k+1,i,g,la,hk,hv,hb,hR,hg,ho,hva,hq=>by
  refine Ad GT.eq_1 ?_
  have hlt:(i:Int)<(n:Int):=by omega
  have hw:=BF (n:=i) (by omega)
  have hvl:vs.length=n:=by have:=hv.1;omega
  have hy:vs[i]? = some vs[i]:=List.getElem?_eq_getElem (by omega)
  have hx:xs[i]? = some xs[i]:=List.getElem?_eq_getElem (by omega)
  have eO:=hof i _ _ hy hx bar g
  obtain ⟨v,hv0⟩:∃ v,v=vs[i]:=⟨_,rfl⟩
  obtain ⟨x,hx0⟩:∃ x,x=xs[i]:=⟨_,rfl⟩
  rw [← hv0] at eO hy
  rw [← hx0] at eO hx
  obtain ⟨h',e2,o2,n1,f1⟩:=(ho.bar_le (b:=bar) (by omega)).app (bar:=bar) hb 16 (II x) rfl rfl (by omega) (by omega) (by omega)
  have hlR:¬ la.isAt R:=fun q=>by have:=(ho.at_lt q).1;omega
  have hgR:h'.get R=some (.cells [la,.nilsl] 0):=by rw [f1 R hR hlR];exact hg
  obtain ⟨h2,hh2⟩:∃ h2,h2=h'.set R (.cells [.sl (g.n+1) 0 2 (i+1) false,.nilsl] 0):=⟨_,rfl⟩
  have n2:h2.n=g.n+2:=by rw [hh2,AW];exact n1
  have k2:∀ j,j<g.n→j≠R→¬ la.isAt j→h2.get j=g.get j:=fun j h1 h3 h4=>by rw [hh2,AI h3];exact f1 j h1 h4
  have o3:OW 2 h2 (R+1) (.sl (g.n+1) 0 2 (i+1) false) (i+1) ((xs.take (i+1)).flatMap II):=by
   have o4:OW 2 h' (R+1) (.sl (g.n+1) 0 2 (i+1) false) (i+1) ((xs.take (i+1)).flatMap II):=by
    rw [List.take_add_one,hx]
    simpa using o2.up (b:=R+1) fun j hj=>by cases hj;omega
   exact o4.mono (by omega) fun j hj=>by cases hj;rw [hh2,AI (by omega)]
  have hv2:Vw 1 h2 va n vs:=hv.keep (by omega) fun j hj=>k2 j (hv.at_lt' hj) (by have:=hva j hj;omega) (fun q=>by have:=(ho.at_lt q).1;have:=hva j hj;omega)
  have hN:=TR hlen hn64 hof R hbR Q k (i+1) h2 _ (by omega) hv2 (by omega) (by omega) (by rw [hh2,AU,if_pos rfl]) o3 hva
   (fun e g' la' h1 h3 h4 h5 h6=>hq e g' la' h1 h3 h4 (fun j hj=>by rw [h5 j hj];exact k2 j (by omega) (by omega) (fun q=>by have:=(ho.at_lt q).1;omega)) h6)
  have f2:Af [.int .i64 0,.bool false] [(0,1,.int .i64 x.1),(1,1,.bool x.2)]=some [.int .i64 x.1,.bool x.2]:=by
   rw [CL rfl (by simp),CL rfl (by simp [AL])];rfl
  have f3:Af [.int .i64 0,.bool false] [(0,2,.agg [.int .i64 x.1,.bool x.2])]=some [.int .i64 x.1,.bool x.2]:=by
   rw [Iu (n:=2) (v:=.agg [.int .i64 x.1,.bool x.2]) rfl (by simp) rfl];rfl
  have hRn:¬ R=g.n:=by omega
  unfold II at e2
  simp [go_sem,As,hlt]
  refine Qd hv (by omega) hy fun u=>?_
  simp [go_sem,AB,AG,eO,hg,AX,f2,f3,AV.cells,hRn,e2,hgR,hbR,hw,Kk]
  rw [← hh2]
  exact hN
theorem aG {va:AV} {vs:List AV} {n:Nat} (hv:Vw 1 g va n vs) (hb:bar≤g.n) (xs:List (Int × Bool)) (hlen:xs.length=n) (hof:∀ (i:Nat) (v:AV) x,vs[i]? = some v→xs[i]? = some x→Sb v x) :
  ∃ g' la,call tb prim CI [va] bar g=some (.ptr g.n 0,g')∧RowV g' g.n g.n ⟨xs.take 64,[]⟩ la .nilsl∧(∀ j,la.isAt j→g.n<j)∧g.n<g'.n∧∀ j,j<g.n→g'.get j=g.get j:=by
 have hvl:=hv.1
 have hn:=hv.2.1
 obtain ⟨m,hm⟩:∃ m,m=min n 64:=⟨_,rfl⟩
 obtain ⟨g1,hg1⟩:∃ g1,g1=g.alloc (.cells [.nilsl,.nilsl] 0):=⟨_,rfl⟩
 have n1:g1.n=g.n+1:=by rw [hg1,AP]
 have gR:g1.get g.n=some (.cells [.nilsl,.nilsl] 0):=by rw [hg1,AK,if_pos rfl]
 have k1:∀ j,j<g.n→g1.get j=g.get j:=fun j hj=>by rw [hg1,AK,if_neg (by omega)]
 have hv1:Vw 1 g1 va n vs:=hv.keep (by omega) fun j hj=>k1 j (hv.at_lt' hj)
 obtain ⟨a',es,hv2,hat⟩:=hv1.first (m:=m) (by omega)
 have hx64:xs.take 64=xs.take m:=by
  rw [hm]
  by_cases c:n≤64
  ·rw [Nat.min_eq_left c,List.take_of_length_le (by omega),List.take_of_length_le (by omega)]
  ·rw [Nat.min_eq_right (by omega)]
 obtain ⟨x,g2,hcall,hP⟩:=Aj (o:=call tb prim) (F:=f_reply_New) (bar:=bar) (h:=g) (args:=[va]) (P:=fun x g2=>x=.ptr g.n 0∧∃ la,g2.get g.n=some (.cells [la,.nilsl] 0)∧OW 2 g2 (g.n+1) la m ((xs.take 64).flatMap II)∧g.n<g2.n∧∀ j,j<g.n→g2.get j=g1.get j) rfl rfl (fun K hK=>by
  have hlen2:=hv2.len
  have hlen1:=hv1.len
  have hmm:(if (64:Int)<(n:Int) then (64:Int) else (n:Int))=(m:Int):=by split<;>omega
  simp [f_reply_New,AO,go_sem,AB,AX,Af,Ap]
  rw [← hg1]
  simp [go_sem,AB,hlen1,As,hmm,Ap,es,hlen2]
  refine TR (va:=a') (vs:=vs.take (m*1)) (xs:=xs.take m) (n:=m) (by rw [List.length_take];omega) (by omega) (fun i v x h1 h2=>?_) g.n hb _ m 0 g1 .nilsl (by omega) hv2 (by omega) (by omega) gR (by simpa using OW.nil) (fun j hj=>hv.at_lt' (hat j hj)) (fun e g' la' q1 q2 q3 q4 q5=>?_)
  ·rw [List.getElem?_take] at h1 h2
   split at h1
   ·split at h2
    ·exact hof i v x h1 h2
    ·cases h2
   ·cases h1
  ·simp [go_sem,q5]
   simp [go_sem,AN,AM,AA,AE,AD,AC,AV.free.freeL,AV.free,AF,AH]
   refine ⟨_,_,⟨rfl,rfl⟩,hK _ _ ⟨rfl,la',q1,?_,q3,q4⟩⟩
   rw [show xs.take 64=xs.take m from hx64]
   exact q2)
 obtain ⟨rfl,la,p1,p2,p3,p4⟩:=hP
 have hl2:(xs.take 64).length=m:=by rw [List.length_take];omega
 exact ⟨g2,la,AQ OR hcall,⟨p1,Nat.le_refl _,p3,by rw [hl2];exact p2.vw (by omega),OW.nil,fun q=>by have:=(p2.at_lt q).1;omega,fun q=>q,fun j _ q=>q,by simp⟩,fun j hj=>(p2.at_lt hj).1,p3,fun j hj=>by rw [p4 j hj,k1 j hj]⟩
end
end Go.Ev
set_option linter.unusedSectionVars false
namespace Go.Ev
open Go
structure TextOk (code:ByteArray) (c:Code'):Prop where
 tok:Bt code=(c.l,0)
 nest:BW c.l=some c.to
 args:c.args=2
 right:Co 1 8 [⟨102,2,code⟩]=0
 to:c.to.all (fun x=>decide (x≤2000))=true
 sig:c.l.all (fun k=>EY k.sign)=true
theorem TextOk.code {code:ByteArray} {c:Code'} (h:TextOk code c):codeW ⟨102,2,code⟩=c:=by
 unfold codeW
 simp only [h.tok,h.nest,Option.getD_some]
 rw [← h.args]
theorem dG (p m:Int) {a:AV} (h:a.one=true):Af [.int .i64 0,.int .i64 0,.nilsl] [(0,1,.int .i64 p),(1,1,.int .i64 m),(2,1,a)]=some [.int .i64 p,.int .i64 m,a]:=by
 rw [CL rfl (by simp),CL rfl (by simp [AL]),CL h (by simp [AL])];rfl
section
variable {bar:Nat} {g:H}
open Classical in
end
end Go.Ev
set_option linter.unusedSectionVars false
namespace Go.Ev
open Go
open Classical in
noncomputable def Ga (fa:AV) (M R:Nat) (ba da la aa:AV):Nat→Nat:=fun j=>if fa.isAt j then 0 else if j=M then 3 else if j=R then 6 else if ba.isAt j then 4 else if da.isAt j then 5 else if la.isAt j then 7 else if aa.isAt j then 8 else 9
section
variable {bar:Nat} {g:H}
structure UnitOk (p mo:Int) (fs:List Fn) (cs:List Code'):Prop where
 right:Co p mo fs=0
 to:∀ f ∈ fs,WD f
 sig:∀ f ∈ fs,∀ k ∈ (Bt f.code).1,EY k.sign=true
 arg:∀ f ∈ fs,0≤f.args∧f.args≤26
 len:fs.length≤32
 codes:fs.map codeW=cs
theorem XJ {fa aa:AV} {fs:List Fn} {cs:List Code'} {p mo:Int} {M R:Nat} {m:Mem} {r:Row} {ba da la ra:AV} (hu:UnitOk p mo fs cs) (hv:FV g fa fs) (hM:MemV g bar M m ba da) (hR:RowV g bar R r la ra) (hbar:bar≤g.n)
  (dMR:M≠R) (dbR:¬ ba.isAt R) (ddR:¬ da.isAt R) (dl:∀ j,la.isAt j→j≠M∧¬ ba.isAt j∧¬ da.isAt j) (dr:∀ j,ra.isAt j→j≠M∧¬ ba.isAt j∧¬ da.isAt j) (df:∀ j,fa.isAt j→j≠M∧j≠R∧¬ ba.isAt j∧¬ da.isAt j∧¬ la.isAt j∧¬ ra.isAt j)
  {nm fuel:Int} (hf0:0≤fuel) (hf1:fuel≤1048576) {k:Nat} (hk:Ay nm fs 0=k) {f:Fn} (hf:fs[k]? = some f) {args:List Int} (haa:Vw 1 g aa args.length (args.map (AV.int .i64))) (hargs:f.args=args.length) (hra:r.asks.length≤900000)
  {s':Mc} {v:Int} {n':Nat} (hrun:DO fs cs fuel.toNat ⟨[Fc (codeW f) args],m,r,0⟩=some (s',v,n')) :
  ∃ xa g' own' ids C,call tb prim Bo [.agg [.int .i64 p,.int .i64 mo,fa],.ptr M 0,.ptr R 0,.int .i32 nm,.int .i64 fuel,aa] bar g=some (IB v s'.trap n' xa,g')∧FzV 2 xa (s'.r.asks.length - r.asks.length) ((s'.r.asks.drop r.asks.length).flatMap asC)∧C.M=M∧C.R=R∧XO g' bar own' C s'.trap v ids∧MemO g' bar own' M s'.m∧RowO g' bar own' R s'.r∧Kp (Ga fa M R ba da la ra) tA g g'∧Agr g.n (Ga fa M R ba da la ra) own':=by
 have hfM:¬ fa.isAt M:=fun q=>(df M q).1 rfl
 have hfR:¬ fa.isAt R:=fun q=>(df R q).2.1 rfl
 have hMO:MemO g bar (Ga fa M R ba da la ra) M m:=by
  refine ⟨⟨ba,da,hM,fun j hj=>?_,fun j hj=>?_⟩,by simp [Ga,hfM]⟩
  ·have h1:j≠M:=fun q=>hM.nb (q ▸ hj)
   have h2:j≠R:=fun q=>dbR (q ▸ hj)
   have h3:¬ fa.isAt j:=fun q=>(df j q).2.2.1 hj
   simp [Ga,h1,h2,h3,hj]
  ·have h1:j≠M:=fun q=>hM.nd (q ▸ hj)
   have h2:j≠R:=fun q=>ddR (q ▸ hj)
   have h3:¬ fa.isAt j:=fun q=>(df j q).2.2.2.1 hj
   have h4:¬ ba.isAt j:=fun q=>hM.ap j q hj
   simp [Ga,h1,h2,h3,h4,hj]
 have hRO:RowO g bar (Ga fa M R ba da la ra) R r:=by
  refine ⟨⟨la,ra,hR,fun j hj=>?_,fun j hj=>?_⟩,?_⟩
  ·obtain ⟨h1,h4,h5⟩:=dl j hj
   have h2:j≠R:=fun q=>hR.nl (q ▸ hj)
   have h3:¬ fa.isAt j:=fun q=>(df j q).2.2.2.2.1 hj
   simp [Ga,h1,h2,h3,h4,h5,hj]
  ·obtain ⟨h1,h4,h5⟩:=dr j hj
   have h2:j≠R:=fun q=>hR.na (q ▸ hj)
   have h3:¬ fa.isAt j:=fun q=>(df j q).2.2.2.2.2 hj
   have h6:¬ la.isAt j:=fun q=>hR.ap j q hj
   simp [Ga,h1,h2,h3,h4,h5,h6,hj]
  ·have h1:R≠M:=fun q=>dMR q.symm
   simp [Ga,hfR,h1]
 exact am hv (fun j hj=>by simp [Ga,hj]) hMO hRO hbar hu.right hu.to hu.sig hu.arg hu.len hf0 hf1 hk hf haa hargs hra (by rw [hu.codes];exact hrun)
theorem aI {fa:AV} {fs:List Fn} {cs:List Code'} {p mo:Int} (hu:UnitOk p mo fs cs) (hv:FV g fa fs) (hbar:bar≤g.n) {pages:Nat} {most:Int} (hp:(pages:Int)≤most) (hmo:most≤64)
  {nm fuel:Int} (hf0:0≤fuel) (hf1:fuel≤1048576) {k:Nat} (hk:Ay nm fs 0=k) {f:Fn} (hf:fs[k]? = some f) {args:List Int} (hargs:f.args=args.length) (hla:args.length≤26)
  {s':Mc} {v:Int} {n':Nat} (hrun:DO fs cs fuel.toNat ⟨[Fc (codeW f) args],FO pages most,⟨[],[]⟩,0⟩=some (s',v,n')) :
  ∃ g2 M g3 g5 xa,call tb prim Du [.int .i64 pages,.int .i64 most] bar g=some (.ptr M 0,g2)∧call tb prim CI [.nilsl] bar g2=some (.ptr g2.n 0,g3)∧g3.n=g2.n+1∧g.n≤g2.n∧(∀ j,j<g.n→g2.get j=g.get j)∧(∀ j,j<g2.n→g3.get j=g2.get j) ∧
   call tb prim Bo [.agg [.int .i64 p,.int .i64 mo,fa],.ptr M 0,.ptr g2.n 0,.int .i32 nm,.int .i64 fuel,.sl g3.n 0 1 args.length true] bar (g3.alloc (.cells (args.map (AV.int .i64)) 0))=some (IB v s'.trap n' xa,g5)∧FzV 2 xa s'.r.asks.length (s'.r.asks.flatMap asC)∧g.n≤g5.n∧(∀ j,j<g.n→(fa.isAt j∨True)→g5.get j=g.get j):=by
 obtain ⟨g2,M,ba,da,e2,hM,n2,k2⟩:=QA (bar:=bar) (g:=g) pages most hp hmo hbar
 obtain ⟨g3,e3,hR,n3,k3⟩:=Ox (bar:=bar) (g:=g2) (by omega)
 obtain ⟨g4,hg4⟩:∃ g4,g4=g3.alloc (.cells (args.map (AV.int .i64)) 0):=⟨_,rfl⟩
 have n4:g4.n=g3.n+1:=by rw [hg4,AP]
 have k4:∀ j,j<g3.n→g4.get j=g3.get j:=fun j hj=>by rw [hg4,AK,if_neg (by omega)]
 have hMl:=hM.lt
 have hMb:=hM.bM
 have hM4:MemV g4 bar M (FO pages most) ba da:=by
  have h1:MemV g4 g.n M (FO pages most) ba da:=hM.mono (by omega) (by rw [k4 _ (by omega),k3 _ hMl]) (fun j hj=>by have:=(hM.ob.at_lt hj).2;rw [k4 _ (by omega),k3 _ this]) (fun j hj=>by have:=(hM.od.at_lt hj).2;rw [k4 _ (by omega),k3 _ this])
  exact ⟨h1.get,by omega,h1.lt,h1.ob.bar_le hbar,h1.od.bar_le hbar,h1.nb,h1.nd,h1.ap,h1.sz,h1.m0,h1.m1,h1.rng⟩
 have hR4:RowV g4 bar g2.n ⟨[],[]⟩ .nilsl .nilsl:=⟨by rw [k4 _ (by omega)];exact hR.get,by omega,by omega,⟨rfl,by simp,.inl ⟨rfl,rfl⟩⟩,OW.nil,fun q=>q,fun q=>q,fun j q=>q.elim,by simp⟩
 have hva:Vw 1 g4 (.sl g3.n 0 1 args.length true) args.length (args.map (AV.int .i64)):=⟨by simp,by omega,.inr (.inr ⟨g3.n,0,true,args.map (AV.int .i64),0,rfl,by omega,by rw [hg4,AK,if_pos rfl],by simp,by rw [List.drop_zero,List.take_of_length_le (by simp)]⟩)⟩
 have hv4:FV g4 fa fs:=hv.keep (by omega) (fun j hj=>by have:=hv.at_lt' hj;rw [k4 _ (by omega),k3 _ (by omega),k2 _ this])
 obtain ⟨xa,g5,own',ids,C,e5,hxa,_,_,_,_,_,k5,_⟩:=XJ (bar:=bar) hu hv4 hM4 hR4 (by omega) (by omega) (fun q=>by have:=(hM.ob.at_lt q).2;omega) (fun q=>by have:=(hM.od.at_lt q).2;omega) (fun j hj=>hj.elim) (fun j hj=>hj.elim)
  (fun j hj=>by have:=hv.at_lt' hj;exact ⟨by omega,by omega,fun q=>by have:=(hM.ob.at_lt q).1;omega,fun q=>by have:=(hM.od.at_lt q).1;omega,fun q=>q,fun q=>q⟩) hf0 hf1 hk hf hva hargs (by simp) hrun
 refine ⟨g2,M,g3,g5,xa,e2,e3,n3,n2,k2,k3,by rw [← hg4];exact e5,by simpa using hxa,by have:=k5.1;omega,fun j hj _=>?_⟩
 rw [k5.2 j (by omega) ?_,k4 _ (by omega),k3 _ (by omega),k2 _ hj]
 have h1:j≠M:=by omega
 have h2:j≠g2.n:=by omega
 have h3:¬ ba.isAt j:=fun q=>by have:=(hM.ob.at_lt q).1;omega
 have h4:¬ da.isAt j:=fun q=>by have:=(hM.od.at_lt q).1;omega
 have h5:¬ (AV.nilsl).isAt j:=fun q=>q
 simp only [Ga,h1,h2,h3,h4,h5,if_false]
 unfold tA
 split<;>omega
end
end Go.Ev
set_option linter.unusedSectionVars false
namespace Go.Ev
open Go
end Go.Ev
set_option linter.unusedSectionVars false
namespace Go.Ev
open Go
theorem Ri {v N:Int} (hv:v≤N):∀ (l:List Nat) (to:List Int),(∀ x ∈ to,x≤N)→∀ x ∈ Ei v l to,x≤N
 | [],to,h,x,hx=>h x hx
 | k::r,to,h,x,hx=>Ri hv r _ (fun y hy=>by
  rcases List.mem_or_eq_of_mem_set hy with q | rfl
  ·exact h y q
  ·exact hv) x hx
theorem YT {sg:Int} {i:Nat} {s s':Mt} {N:Int} (h:BX sg i s=some s') (hi:(i:Int)+1≤N) (hf:∀ p ∈ s.op,p.fr<i) (hl:∀ x ∈ s.to,x≤N):∀ x ∈ s'.to,x≤N:=by
 have hset:∀ (j:Nat) (v:Int),v≤N→∀ x ∈ s.to.set j v,x≤N:=fun j v hv x hx=>by
  rcases List.mem_or_eq_of_mem_set hx with q | rfl
  ·exact hl x q
  ·exact hv
 unfold BX at h
 split at h
 ·split at h
  ·cases h;exact hl
  ·cases h
 split at h
 ·split at h
  ·cases h;exact hl
  ·cases h
 split at h
 ·split at h
  ·cases h
  ·split at h
   ·cases h
   ·cases h;exact hset _ _ (by omega)
 split at h
 ·split at h
  ·cases h
  ·split at h
   ·cases h
   ·cases h;exact hset _ _ (by omega)
 split at h
 ·split at h
  ·cases h
  ·rename_i p hp
   split at h
   ·cases h
    have:=hf p (List.mem_of_getLast? hp)
    exact Ri (by omega) _ _ (hset _ _ (by omega))
   ·cases h
 split at h
 ·split at h
  ·cases h
  ·split at h
   ·cases h;exact hl
   ·cases h
 ·cases h;exact hl
theorem Seqs.to_le {fs:List Fn} {l:List Tok} {P:Nat→Mt} {J:Nat→Js} (S:Seqs fs l P J):∀ i,i≤l.length→∀ x ∈ (P i).to,x≤l.length
 | 0,_,x,hx=>by
  rw [S.p0] at hx
  simp only [List.mem_replicate] at hx
  omega
 | i+1,h,x,hx=>YT (S.ps i (by omega)) (by omega) (S.rel i (by omega)).fr (S.to_le i (by omega)) x hx
theorem XY {fs:List Fn} {s nm:Int} (h:(Am fs s nm).2.2=true):EY s=true:=by
 by_cases c1:s=48∨97≤s∧s≤122∨s=35
 ·simp [EY,HU];omega
 by_cases c2:65≤s∧s≤90∨s=44
 ·simp [EY,HU];omega
 by_cases c3:s=46
 ·simp [EY,HU];omega
 by_cases c4:FT s=true
 ·simp [FT] at c4;simp [EY,HU];omega
 by_cases c5:GB s=true
 ·simp [GB] at c5;simp [EY,HU];omega
 by_cases c6:s=36∨s=174
 ·simp [EY,HU];omega
 by_cases c7:s=63
 ·simp [EY,HU];omega
 by_cases c8:GG s=true
 ·simp [GG] at c8;simp [EY,HU];omega
 by_cases c9:s=955
 ·simp [EY,HU];omega
 ·rw [T0 c1 c2 c3 (by simpa using c4) (by simpa using c5) c6 c7 (by simpa using c8) c9] at h
  cases h
theorem UnitOk.of_right {p mo:Int} {fs:List Fn} (h:Co p mo fs=0):UnitOk p mo fs (fs.map codeW):=by
 obtain ⟨hP,_,_,_⟩:=Te h
 refine ⟨h,fun f hf=>?_,fun f hf k hk=>?_,fun f hf=>?_,hP.len,rfl⟩
 ·obtain ⟨J,⟨P,hS,hto⟩,_,_⟩:=hP.code f hf
  have hn:∃ to,BW (Bt f.code).1=some to:=by
   obtain ⟨i,hi⟩:=List.mem_iff_getElem?.mp hf
   cases hc:BW (Bt f.code).1 with
   | some to=>exact ⟨to,rfl⟩
   | none =>
    exfalso
    have:Br (Bt f.code).1 (Bt f.code).1.length 0 ⟨List.replicate (Bt f.code).1.length (-1),[],0⟩=some (P (Bt f.code).1.length):=by
     have hall:∀ i,i≤(Bt f.code).1.length→Br (Bt f.code).1 i 0 ⟨List.replicate (Bt f.code).1.length (-1),[],0⟩=some (P i):=by
      intro i
      induction i with
      | zero=>intro _;rw [show P 0=_ from hS.p0];rfl
      | succ i ih =>
       intro hi
       rw [KN,ih (by omega)]
       simp only [Option.bind_some,Nat.zero_add,Br]
       rw [show BX (Ah (Bt f.code).1 i) i (P i)=some (P (i+1)) from hS.ps i (by show i<(Bt f.code).1.length;omega)]
       rfl
     exact hall _ (Nat.le_refl _)
    unfold BW at hc
    rw [this] at hc
    simp only at hc
    rw [if_pos (show (P (Bt f.code).1.length).op=[] from hS.pe)] at hc
    cases hc
  obtain ⟨to,hto2⟩:=hn
  refine ⟨to,hto2,fun x hx=>?_⟩
  have e:(P (codeW f).l.length).to=to:=by rw [hto];show (BW (Bt f.code).1).getD []=to;rw [hto2];rfl
  rw [← e] at hx
  have h1:=hS.to_le _ (Nat.le_refl _) x hx
  have h2:(Bt f.code).1.length≤1300:=by
   obtain ⟨_,_,_,q⟩:=Hs (bar:=0) (h:=⟨0,fun _=>none⟩) f.code
   exact q
  have h3:((codeW f).l.length:Int)=((Bt f.code).1.length:Nat):=rfl
  omega
 ·obtain ⟨J,⟨P,hS,hto⟩,_,_⟩:=hP.code f hf
  obtain ⟨i,hi⟩:=List.mem_iff_getElem?.mp hk
  obtain ⟨hil,_⟩:=List.getElem?_eq_some_iff.mp hi
  obtain ⟨t,_,ht,_,hok,_⟩:=hS.eff (i:=i) hil
  have ht':(Bt f.code).1[i]? = some t:=ht
  rw [hi] at ht'
  injection ht' with ht'
  subst ht'
  exact XY hok
 ·obtain ⟨_,_,a0,a4⟩:=hP.code f hf
  have a0':0≤f.args:=a0
  have a4':f.args≤4:=a4
  exact ⟨a0',by omega⟩
def YV (why:Int):AV:=.tup [.agg [.int .i64 0,.int .i64 0,.int .i64 0,.nilsl],.int .i64 why]
section
variable {bar:Nat} {g:H} {fa aa:AV} {fs:List Fn} {p mo:Int}
theorem Ya {Mv Rv:AV} {nm fuel:Int} (hone:fa.one=true) (hbar:bar≤g.n) (h:Mv=.nilptr∨(∃ M R,Mv=.ptr M 0∧Rv=.ptr R 0∧(fuel<0∨1048576<fuel))) :
  ∃ g',call tb prim Bo [.agg [.int .i64 p,.int .i64 mo,fa],Mv,Rv,.int .i32 nm,.int .i64 fuel,aa] bar g=some (YV 1,g')∧g.n≤g'.n∧∀ j,j<g.n→g'.get j=g.get j:=by
 obtain ⟨g1,hg1⟩:∃ g1,g1=((g.alloc (.cells [.int .i64 p,.int .i64 mo,fa] 0)).alloc (.cells [.int .i64 0,.int .i64 0,.int .i64 0,.nilsl] 0)).set (g.n+1) (.cells [.int .i64 0,.int .i64 0,.int .i64 0,.nilsl] 0):=⟨_,rfl⟩
 have n1:g1.n=g.n+2:=by rw [hg1,AW];simp [AP]
 have k1:∀ j,j<g.n→g1.get j=g.get j:=fun j hj=>by rw [hg1,AI (by omega),AK,if_neg (by simp [AP];omega),AK,if_neg (by omega)]
 have gC:g1.get (g.n+1)=some (.cells [.int .i64 0,.int .i64 0,.int .i64 0,.nilsl] 0):=by rw [hg1,AU,if_pos rfl]
 obtain ⟨y,g9,hcall,rfl,h9⟩:=Aj (o:=call tb prim) (F:=f_engine_Run) (bar:=bar) (h:=g) (args:=[.agg [.int .i64 p,.int .i64 mo,fa],Mv,Rv,.int .i32 nm,.int .i64 fuel,aa])
  (P:=fun y g'=>y=YV 1∧g'=g1) rfl rfl (fun K hK=>by
  have hb1:bar≤g.n+1:=by omega
  rcases h with rfl | ⟨M,R,rfl,rfl,h⟩
  ·simp [f_engine_Run,AO,go_sem,AB,AG,Bg,hone,AX,Af,AV.cells,Jj,hb1]
   rw [← hg1]
   simp [go_sem,AN,AM,AA,AE,AD,AC,AV.free.freeL,AV.free,AF,AH,gC]
   exact ⟨_,_,⟨rfl,rfl⟩,hK _ _ ⟨rfl,rfl⟩⟩
  ·by_cases c:fuel<0
   ·simp [f_engine_Run,AO,go_sem,AB,AG,Bg,hone,AX,Af,AV.cells,Jj,hb1,c]
    rw [← hg1]
    simp [go_sem,AN,AM,AA,AE,AD,AC,AV.free.freeL,AV.free,AF,AH,gC]
    exact ⟨_,_,⟨rfl,rfl⟩,hK _ _ ⟨rfl,rfl⟩⟩
   ·have c2:1048576<fuel:=by omega
    simp [f_engine_Run,AO,go_sem,AB,AG,Bg,hone,AX,Af,AV.cells,Jj,hb1,c,c2]
    rw [← hg1]
    simp [go_sem,AN,AM,AA,AE,AD,AC,AV.free.freeL,AV.free,AF,AH,gC]
    exact ⟨_,_,⟨rfl,rfl⟩,hK _ _ ⟨rfl,rfl⟩⟩)
 exact ⟨g9,AQ Mo hcall,by rw [h9];omega,fun j hj=>by rw [h9];exact k1 j hj⟩
end
end Go.Ev
namespace Go.Ev
open Go
end Go.Ev
namespace Go.Ev
open Go
end Go.Ev
namespace Go.Ev
open Go
end Go.Ev
namespace Go.Ev
open Go
end Go.Ev
namespace Go.Ev
open Go
end Go.Ev
namespace Go.Ev
open Go
end Go.Ev
namespace Go.Ev
open Go
end Go.Ev
namespace Go.Ev
open Go
end Go.Ev
namespace Go.Ev
open Go
theorem Rg {A:Type} {c:A→List AV} {k:Nat} (hk:∀ x,(c x).length=k):∀ (len:Nat) (cs:List AV),cs.length=len*k→(∀ i,i<len→∃ x,(cs.drop (i*k)).take k=c x)→∃ l:List A,l.length=len∧cs=l.flatMap c
 | 0,cs,h,_=>⟨[],rfl,List.length_eq_zero_iff.mp (by simpa using h)⟩
 | len+1,cs,h,hx=>by
  obtain ⟨x,h0⟩:=hx 0 (by omega)
  obtain ⟨l,hl,hc⟩:=Rg hk len (cs.drop k) (by rw [List.length_drop,h,Nat.succ_mul];omega) (fun i hi=>by
   obtain ⟨y,hy⟩:=hx (i+1) (by omega)
   exact ⟨y,by rw [List.drop_drop,← hy,Nat.succ_mul,Nat.add_comm]⟩)
  refine ⟨x::l,by simp [hl],?_⟩
  rw [List.flatMap_cons,← hc,← h0]
  simp
theorem PE {A:Type} {c:A→List AV} {P:Program} {n:Nat} {t e:TypeId} {k:Nat} {a:AV} (hk:∀ x,(c x).length=k) (hu:P.underlying t=some (.slice e)) (hce:P.cellsOf e=k) (hx:∀ xs,Fits P n e xs→∃ x,xs=c x) (h:KD P (n+1) t a):∃ l:List A,FzV k a l.length (l.flatMap c):=by
 unfold KD at h
 rw [hu] at h
 simp only at h
 unfold Fits at h
 rw [hu] at h
 rcases h with h | ⟨len,cs,h,hm,hl,hr⟩
 ·cases h;exact ⟨[],by simp,by simp,.inl ⟨rfl,rfl⟩⟩
 ·rw [hce] at h hl hr
  cases h
  obtain ⟨l,hl2,rfl⟩:=Rg hk len cs hl (fun i hi=>hx _ (hr i hi))
  have hm2:maxLen≤9223372036854775807:=by decide
  exact ⟨l,by rw [hl,hl2],by omega,.inr ⟨false,by rw [hl2]⟩⟩
theorem Lu {P:Program} {n:Nat} {t:TypeId} {k:IntKind} {xs:List AV} (hu:P.underlying t=some (.int k)) (h:Fits P (n+1) t xs):∃ x,xs=[.int k x]:=by
 unfold Fits at h;rw [hu] at h;obtain ⟨z,hz,_⟩:=h;exact ⟨z,hz⟩
end Go.Ev
namespace Go.Ev
open Go
def WO (P:Program) (t:TypeId):Bool:=match P.underlying t with
 | some (.struct fs)=>(match fs.toList with
  | [a,b,c]=>decide (a.offset=0)&&decide (b.offset=1)&&decide (c.offset=2)&&decide (P.cellsOf a.type=1)&&decide (P.cellsOf b.type=1)&&decide (P.cellsOf c.type=1) &&
   (match P.underlying a.type with | some (.int .i64)=>true | _=>false) &&
   (match P.underlying b.type with | some (.slice e)=>decide (P.cellsOf e=1)&&(match P.underlying e with | some (.int .i64)=>true | _=>false) | _=>false) &&
   (match P.underlying c.type with | some (.int .i64)=>true | _=>false)
  | _=>false)&&decide (P.cellsOf t=3)
 | _=>false
def Yo (xs:List AV):Prop:=∃ F ca fu,∃ A:List Int,xs=[.int .i64 F,ca,.int .i64 fu]∧FzV 1 ca A.length (A.flatMap i64c)
theorem TD {P:Program} {t:TypeId} (h:(match P.underlying t with | some (.int .i64)=>true | _=>false)=true):P.underlying t=some (.int .i64):=by
 split at h
 ·assumption
 ·cases h
theorem Wb {P:Program} {n:Nat} {t:TypeId} {xs:List AV} (hc:WO P t=true) (h:Fits P (n+3) t xs):Yo xs:=by
 unfold WO at hc
 unfold Fits at h
 split at hc
 ·rename_i fs hu
  rw [hu] at h
  simp only at h
  rw [Bool.and_eq_true,decide_eq_true_eq] at hc
  obtain ⟨hc,h3⟩:=hc
  obtain ⟨hl,hf⟩:=h
  rw [h3] at hl
  split at hc
  ·rename_i a b c he
   simp only [Bool.and_eq_true,decide_eq_true_eq] at hc
   obtain ⟨⟨⟨⟨⟨⟨⟨⟨a0,b0⟩,c0⟩,a1⟩,b1⟩,c1⟩,ai⟩,bi⟩,ci⟩:=hc
   match xs,hl with
   | [x0,x1,x2],_ =>
    have f0:=hf a (by rw [he];simp)
    have f1:=hf b (by rw [he];simp)
    have f2:=hf c (by rw [he];simp)
    rw [a0,a1] at f0
    rw [b0,b1] at f1
    rw [c0,c1] at f2
    simp only [List.drop_zero,List.take_succ_cons,List.take_zero,List.drop_succ_cons] at f0 f1 f2
    obtain ⟨F,hF⟩:=Lu (TD ai) f0
    obtain ⟨fu,hfu⟩:=Lu (TD ci) f2
    cases hF;cases hfu
    split at bi
    ·rename_i e hub
     rw [Bool.and_eq_true,decide_eq_true_eq] at bi
     have hA:KD P (n+2) b.type x1:=by unfold KD;rw [hub];exact f1
     obtain ⟨A,hA2⟩:=PE (c:=i64c) (k:=1) (e:=e) (n:=n+1) (fun _=>rfl) hub bi.1 (fun ys hy=>by obtain ⟨x,rfl⟩:=Lu (n:=n) (k:=.i64) (TD bi.2) hy;exact ⟨x,rfl⟩) hA
     exact ⟨F,x1,fu,A,rfl,hA2⟩
    ·cases bi
  ·cases hc
 ·cases hc
end Go.Ev
set_option linter.unusedSectionVars false
namespace Go.Ev
open Go
theorem bE (nm a:Int) (s:ByteArray):Af [.int .i32 0,.int .i64 0,.str ⟨#[]⟩] [(0,1,.int .i32 nm),(1,1,.int .i64 a),(2,1,.str s)]=some [.int .i32 nm,.int .i64 a,.str s]:=by
 rw [CL rfl (by simp),CL rfl (by simp [AL]),CL rfl (by simp [AL])];rfl
theorem bF (nm a:Int) (s:ByteArray):Af [.int .i32 0,.int .i64 0,.str ⟨#[]⟩] [(0,3,.agg [.int .i32 nm,.int .i64 a,.str s])]=some [.int .i32 nm,.int .i64 a,.str s]:=by
 rw [Iu (n:=3) (v:=.agg [.int .i32 nm,.int .i64 a,.str s]) rfl (by simp) rfl];rfl
theorem Wa (a:Int):Af [.int .i64 0] [(0,1,.int .i64 a)]=some [.int .i64 a]:=by
 rw [CL rfl (by simp)];rfl
section
variable {bar:Nat} {g:H}
theorem Nn (s:ByteArray):∃ fa,call tb prim DT [.str s] bar g=some (.agg [.int .i64 1,.int .i64 2,fa],g)∧FzV 3 fa 1 [.int .i32 102,.int .i64 1,.str s]:=by
 suffices hw:∃ r,BK (call tb prim) f_engramlaw14_one [.str s] bar g=some (r,g)∧∃ fa,r=.agg [.int .i64 1,.int .i64 2,fa]∧FzV 3 fa 1 [.int .i32 102,.int .i64 1,.str s] by
  obtain ⟨r,h1,fa,rfl,h2⟩:=hw;exact ⟨fa,AQ OL h1,h2⟩
 refine CG rfl rfl fun K hK=>?_
 have hU:=fun a (h:AV.one a=true)=>dG 1 2 h
 simp [f_engramlaw14_one,AO,go_sem,AB,AG,AX,bE,bF,AV.cells,hU,BR]
 simp [go_sem,AB,Bf,AA,AE,AD,AV.free.freeL,AF,AC,AD,AV.free,AV.free.freeL]
 exact hK _ ⟨.fz 3 1 [.int .i32 102,.int .i64 1,.str s] true,rfl,⟨rfl,by omega,.inr ⟨true,rfl⟩⟩⟩
theorem JW {code:ByteArray} {c:Code'} (hu:UnitOk 1 2 [⟨102,1,code⟩] [c]) {fuel:Int} (h0:0≤fuel) (h1:fuel≤1048576) {s':Mc} {v:Int} {n':Nat} (hr:DO [⟨102,1,code⟩] [c] fuel.toNat ⟨[Fc c [5]],FO 1 2,⟨[],[]⟩,0⟩=some (s',v,n')) :
  ∃ xa,call tb prim Ce [.str code,.int .i64 fuel] bar g=some (.tup [.agg [.int .i64 v,.int .i64 s'.trap,.int .i64 n',xa],.int .i64 0],g)∧xa.one=true:=by
 suffices hw:∃ r,BK (call tb prim) f_engramlaw14_run [.str code,.int .i64 fuel] bar g=some (r,g)∧∃ xa,r=.tup [.agg [.int .i64 v,.int .i64 s'.trap,.int .i64 n',xa],.int .i64 0]∧xa.one=true by
  obtain ⟨r,h1,xa,rfl,h2⟩:=hw;exact ⟨xa,AQ OM h1,h2⟩
 refine CG rfl rfl fun K hK=>?_
 obtain ⟨g1,hg1⟩:∃ g1,g1=g.alloc (.cells [.int .i64 0,.int .i64 0,.int .i64 0,.nilsl] 0):=⟨_,rfl⟩
 have n1:g1.n=g.n+1:=by rw [hg1,AP]
 have gC:g1.get g.n=some (.cells [.int .i64 0,.int .i64 0,.int .i64 0,.nilsl] 0):=by rw [hg1,AK,if_pos rfl]
 obtain ⟨fa,e1,hfa⟩:=Nn (bar:=g.n) (g:=g1) code
 have hFV:FV g1 fa [⟨102,1,code⟩]:=hfa.vw g1
 have hcode:codeW ⟨102,1,code⟩=c:=by have:=hu.codes;simpa using this
 obtain ⟨g2,M,g3,g5,xa,e2,e3,n3,n2,k2,k3,e5,hxa,n5,k5⟩:=aI (bar:=g.n) (g:=g1) hu hFV (by omega) (pages:=1) (most:=2) (by omega) (by omega) (nm:=102) (fuel:=fuel) h0 h1 (k:=0) rfl (f:=⟨102,1,code⟩) rfl (args:=[5]) rfl (by simp) (by rw [hcode];exact hr)
 unfold IB at e5
 rw [show ((1:Nat):Int)=1 from rfl] at e2
 rw [show (List.map (AV.int .i64) [(5:Int)])=[.int .i64 5] from rfl,show [(5:Int)].length=1 from rfl] at e5
 have hall:([.int .i64 v,.int .i64 s'.trap,.int .i64 n',xa]:List AV).all AV.one=true:=by
  show (true&&(true&&(true&&(xa.one&&true))))=true
  rw [hxa.one];rfl
 have gC5:g5.get g.n=some (.cells [.int .i64 0,.int .i64 0,.int .i64 0,.nilsl] 0):=by rw [k5 _ (by omega) (.inr trivial)];exact gC
 obtain ⟨g6,hg6⟩:∃ g6,g6=g5.set g.n (.cells [.int .i64 v,.int .i64 s'.trap,.int .i64 n',xa] 0):=⟨_,rfl⟩
 have gC6:g6.get g.n=some (.cells [.int .i64 v,.int .i64 s'.trap,.int .i64 n',xa] 0):=by rw [hg6,AU,if_pos rfl]
 simp [f_engramlaw14_run,AO,go_sem,AB,AG]
 rw [← hg1]
 simp [go_sem,AB,AG,e1,e2,e3,AX,Wa,e5,AV.cells,hall,Jj,gC5]
 rw [← hg6]
 have hx1:=hxa.one
 obtain ⟨_,_,⟨hx,_⟩ | ⟨full,hx⟩⟩:=hxa
 ·subst hx
  simp [go_sem,AB,Bf,AA,AE,AD,AV.free.freeL,AF,gC6,AC,AD,AV.free,AV.free.freeL]
  exact hK _ ⟨_,rfl,rfl⟩
 ·subst hx
  simp [go_sem,AB,Bf,AA,AE,AD,AV.free.freeL,AF,gC6,AC,AD,AV.free,AV.free.freeL]
  exact hK _ ⟨_,rfl,rfl⟩
theorem WF (p mo:Int) (nm:Int) (code:ByteArray) (c:Code') (a:Int) (h1:Co p mo [⟨nm,a,code⟩]=0) (h2:codeW ⟨nm,a,code⟩=c):UnitOk p mo [⟨nm,a,code⟩] [c]:=by
 have:=UnitOk.of_right h1
 simpa [h2] using this
def bI:Code':=⟨[nu 1,nu 2,tk 43],[-1,-1,-1],1⟩
def bL:Code':=⟨[nu 1],[-1],1⟩
def bO:Code':=⟨[tk 97,⟨955,0,102⟩],[-1,-1],1⟩
theorem bK:(DO [⟨102,1,⟨#[49,32,50,43]⟩⟩] [bI] 9 ⟨[Fc bI [5]],FO 1 2,⟨[],[]⟩,0⟩).map (fun x=>(x.1.trap,x.2.1,x.2.2))=some (0,3,6):=by kernel_rfl
theorem bN:(DO [⟨102,1,⟨#[49]⟩⟩] [bL] 0 ⟨[Fc bL [5]],FO 1 2,⟨[],[]⟩,0⟩).map (fun x=>(x.1.trap,x.2.1,x.2.2))=some (1,0,0):=by kernel_rfl
theorem bP:(DO [⟨102,1,⟨#[97,206,187,102]⟩⟩] [bO] 999 ⟨[Fc bO [5]],FO 1 2,⟨[],[]⟩,0⟩).map (fun x=>(x.1.trap,x.2.1))=some (6,0):=by kernel_rfl
theorem Np {A B:Type} {f:A→B} {o:Option A} {y:B} (h:o.map f=some y):∃ x,o=some x∧f x=y:=by
 cases o with
 | none=>cases h
 | some x=>exact ⟨x,rfl,by simpa using h⟩
theorem Qs:call tb prim Dl [] bar g=some (.bool true,g):=by
 refine AQ Me (AZ rfl rfl (BJ ?_))
 obtain ⟨⟨s1,v1,f1⟩,r1,q1⟩:=Np bK
 obtain ⟨⟨s2,v2,f2⟩,r2,q2⟩:=Np bN
 obtain ⟨⟨s3,v3,f3⟩,r3,q3⟩:=Np bP
 simp only [Prod.mk.injEq] at q1 q2 q3
 obtain ⟨t1,rfl,rfl⟩:=q1
 obtain ⟨t2,rfl,rfl⟩:=q2
 obtain ⟨t3,rfl⟩:=q3
 obtain ⟨g1,hg1⟩:∃ g1,g1=g:=⟨_,rfl⟩
 obtain ⟨x1,e1,y1⟩:=JW (bar:=g.n) (g:=g) (WF 1 2 102 _ bI 1 (by kernel_rfl) (by kernel_rfl)) (by omega) (by omega) (fuel:=9) r1
 rw [t1] at e1
 have a1:([.int .i64 3,.int .i64 0,.int .i64 (6:Nat),x1]:List AV).all AV.one=true:=by
  show (true&&(true&&(true&&(x1.one&&true))))=true
  rw [y1];rfl
 obtain ⟨ga,hga⟩:∃ ga,ga=(g.alloc (.cells [.int .i64 0,.int .i64 0,.int .i64 0,.nilsl] 0)).set g.n (.cells [.int .i64 3,.int .i64 0,.int .i64 6,x1] 0):=⟨_,rfl⟩
 obtain ⟨x2,e2,y2⟩:=JW (bar:=g.n) (g:=ga) (WF 1 2 102 _ bL 1 (by kernel_rfl) (by kernel_rfl)) (by omega) (by omega) (fuel:=0) r2
 rw [t2] at e2
 have a2:([.int .i64 0,.int .i64 1,.int .i64 (0:Nat),x2]:List AV).all AV.one=true:=by
  show (true&&(true&&(true&&(x2.one&&true))))=true
  rw [y2];rfl
 obtain ⟨gb,hgb⟩:∃ gb,gb=(ga.alloc (.cells [.int .i64 0,.int .i64 0,.int .i64 0,.nilsl] 0)).set ga.n (.cells [.int .i64 0,.int .i64 1,.int .i64 0,x2] 0):=⟨_,rfl⟩
 obtain ⟨x3,e3,y3⟩:=JW (bar:=g.n) (g:=gb) (WF 1 2 102 _ bO 1 (by kernel_rfl) (by kernel_rfl)) (by omega) (by omega) (fuel:=999) r3
 rw [t3] at e3
 have a3:([.int .i64 0,.int .i64 6,.int .i64 f3,x3]:List AV).all AV.one=true:=by
  show (true&&(true&&(true&&(x3.one&&true))))=true
  rw [y3];rfl
 obtain ⟨gc,hgc⟩:∃ gc,gc=(gb.alloc (.cells [.int .i64 0,.int .i64 0,.int .i64 0,.nilsl] 0)).set gb.n (.cells [.int .i64 0,.int .i64 6,.int .i64 f3,x3] 0):=⟨_,rfl⟩
 have na:ga.n=g.n+1:=by rw [hga,AW,AP]
 have nb:gb.n=g.n+2:=by rw [hgb,AW,AP,na]
 have nc:gc.n=g.n+3:=by rw [hgc,AW,AP,nb]
 obtain ⟨fa,e4,hfa⟩:=Nn (bar:=g.n) (g:=gc) ⟨#[49]⟩
 obtain ⟨gd,e5,hR,nd,kd⟩:=Ox (bar:=g.n) (g:=gc) (by omega)
 obtain ⟨ge,hge⟩:∃ ge,ge=gd.alloc (.cells [.int .i64 0] 0):=⟨_,rfl⟩
 have ne:ge.n=gd.n+1:=by rw [hge,AP]
 obtain ⟨gf,e6,nf,kf⟩:=Ya (bar:=g.n) (g:=ge) (p:=1) (mo:=2) (aa:=.sl gd.n 0 1 1 true) (Rv:=.ptr gc.n 0) (nm:=102) (fuel:=1) hfa.one (by omega) (.inl rfl)
 unfold YV at e6
 have c1:gf.get g.n=some (.cells [.int .i64 3,.int .i64 0,.int .i64 6,x1] 0):=by
  rw [kf _ (by omega),hge,AK,if_neg (by omega),kd _ (by omega),hgc,AI (by omega),AK,if_neg (by omega),hgb,AI (by omega),AK,if_neg (by omega),hga,AU,if_pos rfl]
 have c2:gf.get ga.n=some (.cells [.int .i64 0,.int .i64 1,.int .i64 0,x2] 0):=by
  rw [kf _ (by omega),hge,AK,if_neg (by omega),kd _ (by omega),hgc,AI (by omega),AK,if_neg (by omega),hgb,AU,if_pos rfl]
 have c3:gf.get gb.n=some (.cells [.int .i64 0,.int .i64 6,.int .i64 f3,x3] 0):=by
  rw [kf _ (by omega),hge,AK,if_neg (by omega),kd _ (by omega),hgc,AU,if_pos rfl]
 have hbf:g.n≤gf.n:=by omega
 have hba:g.n≤ga.n:=by omega
 have hbb:g.n≤gb.n:=by omega
 have i1:¬ g.n=gf.n:=by omega
 have i2:¬ ga.n=gf.n:=by omega
 have i3:¬ gb.n=gf.n:=by omega
 simp [f_engramlaw14_known,AO,go_sem,AB,AG,e1,AV.cells,y1,Jj]
 simp only [← hga]
 simp [go_sem,AB,AG,e2,AV.cells,y2,Jj,hba]
 simp only [← hgb]
 simp [go_sem,AB,AG,e3,AV.cells,y3,Jj,hbb]
 simp only [← hgc]
 simp [go_sem,AB,AG,e4,e5,AX,Wa,← hge,e6,AV.cells,Jj,hbf]
 simp [go_sem,AB,AG,c1,c2,c3,i1,i2,i3]
 simp [go_sem,AN,AM,AA,AE,AD,AC,AV.free.freeL,AV.free,AF,AH]
end
end Go.Ev
set_option linter.unusedSectionVars false
namespace Go.Ev
open Go
theorem YI (i:Nat):FL (IJ i)=true:=by
 unfold IJ
 split
 ·decide
 ·split<;>decide
theorem GoodU.find {fs:List Fn} (h:GoodU fs) {i:Nat} (hi:i<fs.length):Ay fs[i].name fs 0=(i:Int):=by
 obtain ⟨h3,hn,_⟩:=h
 match fs,h3,hn,hi with
 | [a],_,hn,hi =>
  have h0:=(hn 0 (by simp)).1
  match i,hi with
  | 0,_=>simp [Ay]
 | [a,b],_,hn,hi =>
  have h0:=(hn 0 (by simp)).1
  have h1:=(hn 1 (by simp)).1
  simp [IJ] at h0 h1
  match i,hi with
  | 0,_=>simp [Ay]
  | 1,_=>simp [Ay,h0,h1]
 | [a,b,c],_,hn,hi =>
  have h0:=(hn 0 (by simp)).1
  have h1:=(hn 1 (by simp)).1
  have h2:=(hn 2 (by simp)).1
  simp [IJ] at h0 h1 h2
  match i,hi with
  | 0,_=>simp [Ay]
  | 1,_=>simp [Ay,h0,h1]
  | 2,_=>simp [Ay,h0,h1,h2]
theorem TQ {fs:List Fn} (h:∀ (i:Nat) (hi:i<fs.length),En fs fs[i] i=true):∀ (k i:Nat),i+k=fs.length→FM fs k i=true
 | 0,_,_=>rfl
 | k+1,i,hk=>by
  rw [FM,List.getElem?_eq_getElem (by omega)]
  simp only
  rw [if_pos (h i (by omega))]
  exact TQ h k (i+1) (by omega)
theorem Ue {fs:List Fn} (h:∀ (i:Nat),i<fs.length→Nd fs i=0):∀ (k i:Nat),i+k=fs.length→GE fs k i=0
 | 0,_,_=>rfl
 | k+1,i,hk=>by
  rw [GE,if_neg (by rw [h i (by omega)];simp)]
  exact Ue h k (i+1) (by omega)
theorem GoodU.right {fs:List Fn} (h:GoodU fs) {p m:Int} (h0:0≤p) (h1:p≤m) (h2:m≤64):Co p m fs=0:=by
 unfold Co
 rw [if_neg (by omega),if_neg (by have:=h.1;omega),if_pos]
 ·refine Ue (fun i hi=>?_) _ 0 (by omega)
  unfold Nd
  rw [RY hi]
  exact (h.2.2 i hi).2
 ·refine TQ (fun i hi=>?_) _ 0 (by omega)
  have hn:=h.2.1 i hi
  unfold En
  rw [h.find hi]
  simp only [beq_self_eq_true,Bool.and_true,Bool.and_eq_true,decide_eq_true_eq]
  exact ⟨⟨by rw [hn.1];exact YI i,hn.2.1⟩,by omega⟩
theorem Xt {bar n O p:Nat} {h:H} {cs:List AV} {full:Bool} (hg:h.get O=some (.cells cs p)) (hb:bar≤O) (hl:cs.length=n) (h1:cs.all AV.stay=true) (h2:cs.all AV.free=true) (h3:cs.all AV.one=true) (d:Nat):AC bar (d+2) h (.sl O 0 1 n full)=some (.fz 1 n cs full,h.set O (.cells cs (max p (0+n*1)))):=by
 have hcs:(cs.drop 0).take (n*1)=cs:=by rw [List.drop_zero,List.take_of_length_le (by omega)]
 simp only [AC,hg]
 rw [if_pos ⟨hb,by omega⟩,hcs,Hr h1]
 simp only
 rw [if_pos ⟨h2,h3⟩]
theorem Xw (l:List Int):(l.flatMap i64c).all AV.stay=true∧(l.flatMap i64c).all AV.free=true∧(l.flatMap i64c).all AV.one=true:=by
 have h:∀ y ∈ l.flatMap i64c,∃ x,y=.int .i64 x:=fun y hy=>by
  obtain ⟨x,_,hx⟩:=List.mem_flatMap.mp hy
  simp [i64c] at hx
  exact ⟨x,hx⟩
 refine ⟨?_,?_,?_⟩<;>(rw [List.all_eq_true];intro y hy;obtain ⟨x,rfl⟩:=h y hy;rfl)
theorem Td:∀ n:Nat,rep [.int .i64 0] n=(List.replicate n (0:Int)).flatMap i64c
 | 0=>rfl
 | n+1=>by rw [List.replicate_succ,List.flatMap_cons,← Td n];rfl
section
variable {bar:Nat} {g:H}
def Qg (f:Fn):Nat:=(max (min f.args 4) 0).toNat
theorem Qh {ca:AV} {A:List Int} (hv:Vw 1 g ca A.length (A.flatMap i64c)) {C O n:Nat} {x6 c0 c2:AV} (hC:g.get C=some (.cells [c0,ca,c2] 0)) (hCO:C≠O) (hCl:C<g.n) (hcaO:¬ ca.isAt O) (hbO:bar≤O) (hn4:n≤4) (Q:Ex→Env→H→Prop) (hq:∀ e g' (l:List Int),e.get 6=some x6→e.get 7=some (.sl O 0 1 n true)→l.length=n→g'.get O=some (.cells (l.flatMap i64c) 0)→g'.n=g.n→(∀ j,j≠O→g'.get j=g.get j)→Q (.exit 0) e g'):∀ (k i:Nat) (g':H) (l:List Int),n=i+k→l.length=n→g'.get O=some (.cells (l.flatMap i64c) 0)→g'.n=g.n→(∀ j,j≠O→g'.get j=g.get j) →
  CW (call tb prim) bar [3,6,7,29,30] FB [(3,.ptr C 0),(6,x6),(7,.sl O 0 1 n true),(29,.int .i64 (n:Nat)),(30,.int .i64 (i:Nat))] g' Q
 | 0,i,g',l,hk,hl,hg,hn,hf=>by
  refine Ad FB.eq_1 ?_
  have hi:i=n:=by omega
  subst hi
  simp [go_sem]
  exact hq _ _ l rfl rfl hl hg hn hf
 | k+1,i,g',l,hk,hl,hg,hn,hf=>by
  refine Ad FB.eq_1 ?_
  have hlt:(i:Int)<(n:Int):=by omega
  have hw:=BF (n:=i) (by omega)
  have hC':g'.get C=some (.cells [c0,ca,c2] 0):=by rw [hf C hCO];exact hC
  have hv':Vw 1 g' ca A.length (A.flatMap i64c):=hv.keep (by omega) (fun j hj=>hf j (fun q=>hcaO (q ▸ hj)))
  have hlen:=fun h=>hv'.len h
  have ix:AJ (.int .i64 (i:Int)) n=some i:=by simp only [AJ];rw [if_pos (by omega),Int.toNat_natCast]
  by_cases c:i<A.length
  ·have hci:(i:Int)<(A.length:Int):=by omega
   have hx:(A.flatMap i64c)[i]? = some (.int .i64 A[i]):=Kx c
   obtain ⟨x,hx0⟩:∃ x,x=A[i]:=⟨_,rfl⟩
   rw [← hx0] at hx
   have hs:AL (l.flatMap i64c) i [.int .i64 x]=(l.set i x).flatMap i64c:=Od (by omega) x
   have ln:(l.flatMap i64c).length=n:=by rw [ED,hl]
   have i1:i+1≤n:=by omega
   have hN:=Qh hv hC hCO hCl hcaO hbO hn4 Q hq k (i+1) (g'.set O (.cells ((l.set i x).flatMap i64c) 0)) (l.set i x) (by omega) (by simpa using hl) (by rw [AU,if_pos rfl]) (by rw [AW];exact hn) (fun j hj=>by rw [AI hj];exact hf j hj)
   simp [go_sem,AB,AG,hlt,hC',hlen,As,hci,c]
   refine Qd hv' c hx fun u=>?_
   simp [go_sem,AB,AG,ix,hg,ln,i1,hs,hbO,hw]
   exact hN
  ·have hci:¬ (i:Int)<(A.length:Int):=by omega
   have hN:=Qh hv hC hCO hCl hcaO hbO hn4 Q hq k (i+1) g' l (by omega) hl hg hn hf
   simp [go_sem,AB,AG,hlt,hC',hlen,As,hci,c,hw]
   exact hN
theorem ZC {fa ca:AV} {fs:List Fn} {A:List Int} (hfa:FzV 3 fa fs.length (fs.flatMap Fn.cells)) (hne:1≤fs.length) (hl:fs.length≤100) (hv:Vw 1 g ca A.length (A.flatMap i64c)) (p m F fu:Int) :
  ∃ (k:Nat) (f:Fn) (aa:AV) (args:List Int),call tb prim EO [.agg [.int .i64 p,.int .i64 m,fa],.agg [.int .i64 F,ca,.int .i64 fu]] bar g=some (.tup [.int .i32 f.name,aa],g)∧fs[k]? = some f∧FzV 1 aa args.length (args.map (AV.int .i64))∧args.length=Qg f:=by
 obtain ⟨full,hfe⟩:∃ full,fa=.fz 3 fs.length (fs.flatMap Fn.cells) full:=by
  obtain ⟨_,_,⟨_,h0⟩ | h⟩:=hfa
  ·omega
  ·exact h
 obtain ⟨v,hv0⟩:∃ v,v=(HL F 1048576).tmod (max (fs.length:Int) 1):=⟨_,rfl⟩
 have v0:0≤v:=by rw [hv0];exact Int.tmod_nonneg _ (OV F 1048576 (by omega)).1
 have v1:v<max (fs.length:Int) 1:=by rw [hv0];exact Int.tmod_lt_of_pos _ (by omega)
 have ea:=fun h'=>aw (bar:=g.n) (h:=h') F fs.length (by omega)
 rw [← hv0] at ea
 obtain ⟨k,hk⟩:∃ k:Nat,v=k:=⟨v.toNat,by omega⟩
 subst hk
 have hkl:k<fs.length:=by omega
 obtain ⟨f,hf⟩:∃ f,f=fs[k]:=⟨_,rfl⟩
 have hfk:fs[k]? = some f:=by rw [List.getElem?_eq_getElem hkl,hf]
 suffices hw:∃ r,BK (call tb prim) f_engramkeep_Args [.agg [.int .i64 p,.int .i64 m,fa],.agg [.int .i64 F,ca,.int .i64 fu]] bar g=some (r,g)∧∃ aa,∃ args:List Int,r=.tup [.int .i32 f.name,aa]∧FzV 1 aa args.length (args.map (AV.int .i64))∧args.length=Qg f by
  obtain ⟨r,h1,aa,args,rfl,h2,h3⟩:=hw;exact ⟨k,f,aa,args,AQ OJ h1,hfk,h2,h3⟩
 refine CG rfl rfl fun K hK=>?_
 obtain ⟨h2,hh2⟩:∃ h2,h2=((g.alloc (.cells [.int .i64 p,.int .i64 m,fa] 0)).alloc (.cells [.int .i64 F,ca,.int .i64 fu] 0)):=⟨_,rfl⟩
 have n2:h2.n=g.n+2:=by rw [hh2];simp [AP]
 have k2:∀ j,j<g.n→h2.get j=g.get j:=fun j hj=>by rw [hh2,AK,if_neg (by rw [AP];omega),AK,if_neg (by omega)]
 have gU:h2.get g.n=some (.cells [.int .i64 p,.int .i64 m,fa] 0):=by rw [hh2,AK,if_neg (by rw [AP];omega),AK,if_pos rfl]
 have gC:h2.get (g.n+1)=some (.cells [.int .i64 F,ca,.int .i64 fu] 0):=by rw [hh2,AK,if_pos (by rw [AP])]
 obtain ⟨h3,hh3⟩:∃ h3,h3=(h2.alloc (.cells [.int .i32 0,.int .i64 0,.str ⟨#[]⟩] 0)).set h2.n (.cells [.int .i32 f.name,.int .i64 f.args,.str f.code] 0):=⟨_,rfl⟩
 have n3:h3.n=g.n+3:=by rw [hh3,AW,AP,n2]
 have k3:∀ j,j<h2.n→h3.get j=h2.get j:=fun j hj=>by rw [hh3,AI (by omega),AK,if_neg (by omega)]
 have gF:h3.get h2.n=some (.cells [.int .i32 f.name,.int .i64 f.args,.str f.code] 0):=by rw [hh3,AU,if_pos rfl]
 have hone:=hfa.one
 have hflen:=fun h=>hfa.len h
 have hca1:=hv.one
 have hrow:((fs.flatMap Fn.cells).drop (k*3)).take 3=[.int .i32 f.name,.int .i64 f.args,.str f.code]:=by
  have:=Sz hkl;rw [← hf] at this;exact this
 have hfl2:(fs.flatMap Fn.cells).length=fs.length*3:=GS Fn.cells_len fs
 have ix:AJ (.int .i64 (k:Int)) fs.length=some k:=by simp only [AJ];rw [if_pos (by omega),Int.toNat_natCast]
 have hne0:((fs.length:Int) == 0)=false:=by simp;intro h;subst h;simp at hne
 have hle3:k*3+3≤fs.length*3:=by omega
 obtain ⟨cs,hcs⟩:∃ cs,cs=fs.flatMap Fn.cells:=⟨_,rfl⟩
 obtain ⟨N,hN⟩:∃ N,N=fs.length:=⟨_,rfl⟩
 rw [← hcs] at hrow hfl2 hfe
 rw [← hN] at hfl2 hfe hflen ix hne0 hle3 ea
 have hfl3:(cs.length=N*3)=True:=by simpa using hfl2
 have hle4:k*3+3≤cs.length:=by omega
 have hU2n:¬ g.n=h2.n:=by omega
 have hC2n:¬ g.n+1=h2.n:=by omega
 have hb2:g.n≤h2.n:=by omega
 simp [f_engramkeep_Args,AO,go_sem,AB,AG,hone,hca1]
 rw [← hh2]
 simp [go_sem,AB,AG,gU,gC,hflen,As,hne0]
 rw [hfe] at gU ⊢
 refine ⟨⟨Ab rfl ?_,Ab rfl ?_,Ab rfl ?_,Ab rfl ?_,Ab rfl ?_⟩,?_⟩
 ·simp [-getElem?_pos,An,Ai,Aa,AS,AT,List.take,List.take_succ_cons,List.take_zero,go_sem,AB,AG,gU,gC,ea,ix,hfl3,hle4,hle3,hrow,hU2n,hC2n,hb2,As,List.getElem?_cons_zero,List.getElem?_cons_succ]
 ·simp [-getElem?_pos,An,Ai,Aa,AS,AT,List.take,List.take_succ_cons,List.take_zero,go_sem,AB,AG,gU,gC,ea,ix,hfl3,hle4,hle3,hrow,hU2n,hC2n,hb2,As,List.getElem?_cons_zero,List.getElem?_cons_succ]
 ·simp [-getElem?_pos,An,Ai,Aa,AS,AT,List.take,List.take_succ_cons,List.take_zero,go_sem,AB,AG,gU,gC,ea,ix,hfl3,hle4,hle3,hrow,hU2n,hC2n,hb2,As,List.getElem?_cons_zero,List.getElem?_cons_succ]
 ·simp [-getElem?_pos,An,Ai,Aa,AS,AT,List.take,List.take_succ_cons,List.take_zero,go_sem,AB,AG,gU,gC,ea,ix,hfl3,hle4,hle3,hrow,hU2n,hC2n,hb2,As,List.getElem?_cons_zero,List.getElem?_cons_succ]
 ·simp [-getElem?_pos,An,Ai,Aa,AS,AT,List.take,List.take_succ_cons,List.take_zero,go_sem,AB,AG,gU,gC,ea,ix,hfl3,hle4,hle3,hrow,hU2n,hC2n,hb2,As,List.getElem?_cons_zero,List.getElem?_cons_succ]
 obtain ⟨n,hn⟩:∃ n,n=Qg f:=⟨_,rfl⟩
 have hn4:n≤4:=by rw [hn];unfold Qg;omega
 have hmm:(if (if 4<f.args then 4 else f.args)<0 then (0:Int) else (if 4<f.args then 4 else f.args))=(n:Int):=by
  rw [hn];unfold Qg;split<;>split<;>omega
 obtain ⟨h4,hh4⟩:∃ h4,h4=h3.alloc (.cells ((List.replicate n (0:Int)).flatMap i64c) 0):=⟨_,rfl⟩
 have n4:h4.n=g.n+4:=by rw [hh4,AP,n3]
 have k4:∀ j,j<h3.n→h4.get j=h3.get j:=fun j hj=>by rw [hh4,AK,if_neg (by omega)]
 have gO:h4.get h3.n=some (.cells ((List.replicate n (0:Int)).flatMap i64c) 0):=by rw [hh4,AK,if_pos rfl]
 have hrep:=Td n
 have hC4:h4.get (g.n+1)=some (.cells [.int .i64 F,ca,.int .i64 fu] 0):=by rw [k4 _ (by omega),k3 _ (by omega)];exact gC
 have hF4:h4.get h2.n=some (.cells [.int .i32 f.name,.int .i64 f.args,.str f.code] 0):=by rw [k4 _ (by omega)];exact gF
 have hv4:Vw 1 h4 ca A.length (A.flatMap i64c):=hv.keep (by omega) (fun j hj=>by have:=hv.at_lt' hj;rw [k4 j (by omega),k3 j (by omega),k2 j (by omega)])
 have hm1:(n:Int)*8≤140737488355328:=by omega
 have hm2:(n:Int)≤9223372036854775807:=by omega
 simp [go_sem,AB,AG,ea,ix,hfl3,hle4,hle3,hrow,hb2,cR,hmm,hm1,hm2,hrep]
 rw [← hh3,← hh4]
 have hO:h2.n+1=h3.n:=by omega
 rw [hO]
 refine Qh hv4 (C:=g.n+1) (O:=h3.n) hC4 (by omega) (by omega) (fun q=>by have:=hv.at_lt' q;omega) (by omega) hn4 _ (fun e g' l q6 q7 ql hg' hn' hf'=>?_) n 0 h4 (List.replicate n 0) (by omega) (by simp) gO rfl (fun _ _=>rfl)
 have hF5:g'.get h2.n=some (.cells [.int .i32 f.name,.int .i64 f.args,.str f.code] 0):=by rw [hf' _ (by omega)];exact hF4
 obtain ⟨s1,s2,s3⟩:=Xw l
 have hfr:=fun d=>Xt (bar:=g.n) (n:=n) (full:=true) hg' (by omega) (by rw [ED,ql]) s1 s2 s3 d
 have hfr1:=hfr 1
 have hfr2:=hfr 2
 have hi1:∀ (d:Nat) (h:H),AC g.n (d+1) h (.int .i32 f.name)=some (.int .i32 f.name,h):=fun d h=>Ng rfl
 have hi2:=hi1 2
 have hi3:=hi1 3
 have hmap:(l.map (AV.int .i64))=l.flatMap i64c:=by
  clear hg' hfr hfr1 hfr2 s1 s2 s3 ql
  induction l with
  | nil=>rfl
  | cons x r ih=>rw [List.map_cons,List.flatMap_cons,ih];rfl
 simp [go_sem,AB,AG,q6,q7,hF5]
 simp [go_sem,AB,Bf,AA,AE,AD,AV.free.freeL,AF,hi2,hi3,hfr1,hfr2,AV.free,AV.one]
 exact hK _ ⟨_,l,rfl,⟨by simp,by omega,.inr ⟨true,by rw [hmap,ql]⟩⟩,by rw [ql,hn]⟩
end
end Go.Ev
set_option linter.unusedSectionVars false
namespace Go.Ev
open Go
section
variable {bar:Nat} {g:H}
theorem aH {p mo:Int} {fs:List Fn} (hr:Co p mo fs=0) {k:Nat} {f:Fn} (hf:fs[k]? = some f) {args:List Int} (hargs:f.args=args.length) (m:Mem) (r:Row) (n:Nat) :
  ∃ s' v n',DO fs (fs.map codeW) n ⟨[Fc (codeW f) args],m,r,0⟩=some (s',v,n')∧n'≤n∧0≤s'.trap∧s'.trap≤7∧(s'.trap≠0→v=0)∧(s'.trap=1→n'=0):=by
 obtain ⟨hP,_⟩:=Te hr
 refine Tl hP n _ ⟨Int.le_refl _,by show (0:Int)≤7;omega,by show (0:Int)≠1;omega⟩ (fun _=>⟨_,[],rfl,?_,fun g hg=>by cases hg⟩)
 obtain ⟨J,hc⟩:=hP.code f (List.mem_of_getElem? hf)
 obtain ⟨P,hS,_⟩:=hc.seq
 have ha4:=hc.a4
 have ha:(codeW f).args=f.args:=rfl
 refine ⟨J,hc,Nat.zero_le _,?_,?_⟩
 ·show (args.take 26++List.replicate (26 - args.length) 0).length=26
  rw [List.length_append,List.length_take,List.length_replicate];omega
 ·show ((([]:List Int).length:Nat):Int)=jE (codeW f).l J 0
  have h00:(J 0).h=0:=by rw [hS.j0]
  rw [hS.alive (by omega),h00];rfl
end
end Go.Ev
set_option linter.unusedSectionVars false
namespace Go.Ev
open Go
theorem OW.freezeW {k:Nat} {h:H} {bar:Nat} {a:AV} {n:Nat} {cs:List AV} (v:OW k h bar a n cs) (hc:cs.all AV.still=true) (hn:n≤9223372036854775807) (d:Nat):∃ a' h',AC bar (d+2) h a=some (a',h')∧FzV k a' n cs:=by
 obtain ⟨h1,h2,⟨rfl,rfl⟩ | ⟨id,rest,full,rfl,g1,g2,g3⟩⟩:=v
 ·exact ⟨.nilsl,h,by simp [AC],h1,hn,.inl ⟨rfl,rfl⟩⟩
 ·refine ⟨.fz k n cs full,h.set id (.cells (cs++rest) (max 0 (0+n*k))),?_,h1,hn,.inr ⟨full,rfl⟩⟩
  have hcs:((cs++rest).drop 0).take (n*k)=cs:=by rw [List.drop_zero,← h1,List.take_left]
  have hf:cs.all AV.free=true:=by rw [List.all_eq_true] at hc ⊢;exact fun x hx=>IE (hc x hx)
  simp only [AC,g3]
  rw [if_pos ⟨g1,by simp [h1]⟩,hcs,Et hc]
  simp only
  rw [if_pos ⟨hf,h2⟩]
def Jr:List Bool→Nat→List Int
 | [],_=>[]
 | b::r,i=>if b then (i:Int)::Jr r (i+1) else Jr r (i+1)
theorem Uu:∀ (l:List Bool) (i:Nat),(Jr l i).length≤l.length
 | [],_=>Nat.le_refl _
 | b::r,i=>by
  have:=Uu r (i+1)
  unfold Jr
  split<;>simp<;>omega
theorem Tt:∀ (n i:Nat),Jr (List.replicate n false) i=[]
 | 0,_=>rfl
 | n+1,i=>by rw [List.replicate_succ];exact Tt n (i+1)
theorem We (l:List Int):(l.flatMap i64c).all AV.still=true:=by
 rw [List.all_eq_true];intro y hy
 obtain ⟨x,_,hx⟩:=List.mem_flatMap.mp hy
 simp [i64c] at hx
 subst hx;rfl
theorem Rr {bar:Nat} {g:H} {a:AV} {n:Nat} {cs:List AV} (v:Vw 1 g a n cs) (ha:Bg 1 a=some false) (hc:cs.all AV.one=true) (hn:n≤100000) (hb:bar≤g.n) :
  ∃ g' id,call tb prim BS [a] bar g=some (.sl id 0 1 n (decide (n=0)),g')∧bar≤id∧g'.get id=some (.cells cs 0):=by
 have v2:Vw 1 (g.alloc (.cells [] 0)) a n cs:=v.mono (Ag.alloc _ (Nat.le_refl _)) (Nat.le_refl _)
 obtain ⟨g',id,e1,i1,i2⟩:∃ g' id,HM bar 1 1 (some (.sl g.n 0 1 0 true)) (some a) (g.alloc (.cells [] 0))=some (.sl id 0 1 n (decide (n=0)),g')∧bar≤id∧g'.get id=some (.cells cs 0):=by
  by_cases hz:n=0
  ·subst hz
   have:cs=[]:=List.length_eq_zero_iff.mp (by have:=v.1;omega)
   subst this
   exact ⟨g.alloc (.cells [] 0),g.n,by simp [HM,Hb v2,Ch],hb,by simp [AK]⟩
  ·refine ⟨(g.alloc (.cells [] 0)).alloc (.cells cs 0),g.n+1,?_,by omega,by rw [AK,if_pos (by rw [AP])]⟩
   simp only [HM,Hb v2,if_pos (show 0<1 by omega),Ch,if_true]
   rw [if_neg hz,AK,if_pos rfl]
   simp only
   rw [if_pos ⟨by simp,by omega,by omega⟩]
   simp [hz,AP]
 obtain ⟨x,g2,hcall,hr,h1⟩:=Aj (o:=call tb prim) (F:=f_slices_Clone_byte_byte) (bar:=bar) (h:=g) (args:=[a]) (P:=fun x g2=>x=.sl id 0 1 n (decide (n=0))∧g2=g') rfl rfl (fun K hK=>by
  simp [f_slices_Clone_byte_byte,AO,go_sem,AB,ha,AX,Af,e1]
  simp [go_sem,AN,AM,AA,AE,AD,AC,AV.free.freeL,AV.free,AF,AH]
  exact ⟨_,_,⟨rfl,rfl⟩,hK _ _ ⟨by simp,rfl⟩⟩)
 subst hr h1
 exact ⟨_,_,AQ EZ hcall,i1,i2⟩
def Ft (ba:AV) (l:List Int):AV:=match ba with | .nilsl=>.nilsl | _=>.fz 1 l.length (Df l) (decide (l.length=0))
section
variable {bar b M:Nat} {g:H} {m:Mem} {ba da:AV}
theorem Lk (v:MemV g b M m ba da):call tb prim CF [.ptr M 0] bar g=some (Ft ba m.b,g)∧FzV 1 (Ft ba m.b) m.b.length (Df m.b):=by
 have hl:m.b.length≤4096:=by have:=v.sz;have:=v.m0;have:=v.m1;omega
 have hg:=v.get
 have hst:(Df m.b).all AV.still=true:=by
  rw [List.all_eq_true];intro y hy
  obtain ⟨x,_,rfl⟩:=List.mem_map.mp hy
  rfl
 have hfr:(Df m.b).all AV.free=true:=by rw [List.all_eq_true] at hst ⊢;exact fun x hx=>IE (hst x hx)
 have hlen:(Df m.b).length=m.b.length:=by simp [Df]
 obtain ⟨g',r,e,h',hfz,hfv⟩:∃ g' r,call tb prim BS [ba] g.n g=some (r,g')∧∃ h',AC g.n 4 g' r=some (Ft ba m.b,h')∧FzV 1 (Ft ba m.b) m.b.length (Df m.b):=by
  by_cases hz:ba=.nilsl
  ·have hl0:m.b.length=0:=by
    obtain ⟨_,_,⟨_,e⟩ | ⟨id,rest,full,e,_⟩⟩:=v.ob
    ·exact e
    ·rw [hz] at e;cases e
   have hb0:m.b=[]:=List.length_eq_zero_iff.mp hl0
   rw [hz,hb0]
   refine ⟨g,.nilsl,?_,g,by simp [AC,Ft],by simp [Df],by simp,.inl ⟨rfl,rfl⟩⟩
   obtain ⟨x,g2,hcall,hr,h1⟩:=Aj (o:=call tb prim) (F:=f_slices_Clone_byte_byte) (bar:=g.n) (h:=g) (args:=[.nilsl]) (P:=fun x g2=>x=.nilsl∧g2=g) rfl rfl (fun K hK=>by
    simp [f_slices_Clone_byte_byte,AO,go_sem,AB,Bg]
    simp [go_sem,AN,AM,AA,AE,AD,AC,AV.free.freeL,AV.free,AF,AH]
    exact ⟨_,_,⟨rfl,rfl⟩,hK _ _ ⟨rfl,rfl⟩⟩)
   subst hr h1
   exact AQ EZ hcall
  ·have ha:Bg 1 ba=some false:=by
    obtain ⟨_,_,⟨e,_⟩ | ⟨id,rest,full,e,_⟩⟩:=v.ob
    ·exact absurd e hz
    ·subst e;rfl
   have hbA:Ft ba m.b=.fz 1 m.b.length (Df m.b) (decide (m.b.length=0)):=by
    unfold Ft
    split
    ·exact absurd rfl hz
    ·rfl
   obtain ⟨g',id,e,i1,i2⟩:=Rr (bar:=g.n) (v.ob.vw (by omega)) ha v.ob.2.1 (by omega) (Nat.le_refl _)
   refine ⟨g',_,e,g'.set id (.cells (Df m.b) (max 0 (0+m.b.length*1))),?_,by rw [hbA];exact ⟨by simp [Df],by omega,.inr ⟨_,rfl⟩⟩⟩
   have hcs:((Df m.b).drop 0).take (m.b.length*1)=Df m.b:=by rw [List.drop_zero,List.take_of_length_le (by omega)]
   rw [hbA]
   simp only [AC,i2]
   rw [if_pos ⟨i1,by omega⟩,hcs,Et hst]
   simp only
   rw [if_pos ⟨hfr,v.ob.2.1⟩]
 obtain ⟨r2,hc,h⟩:=CG (o:=call tb prim) (F:=f_cells_Memory_Bytes) (bar:=bar) (h:=g) (args:=[.ptr M 0]) (P:=fun r=>r=Ft ba m.b) rfl rfl (fun K hK=>by
  simp [f_cells_Memory_Bytes,AO,go_sem,AB,AG,hg,e]
  simp [go_sem,Bf,AA,AE,AD,AV.free.freeL,AF,hfz,hfv.free]
  exact hK _ rfl)
 subst h
 exact ⟨AQ LT hc,hfv⟩
theorem PH {g0:H} (v:MemV g0 b M m ba da) {bar:Nat} (hb:g0.n≤bar) (Q:Ex→Env→H→Prop) (hQ:∀ e g' a (l:List Int),e.get 3=some a→OW 1 g' bar a l.length (l.flatMap i64c)→l=Jr m.dirty 0→Q (.exit 0) e g') :
  ∀ (k i:Nat) (g:H) (a:AV) (l:List Int),m.dirty.length=i+k→l++Jr (m.dirty.drop i) i=Jr m.dirty 0→l.length≤i→OW 1 g bar a l.length (l.flatMap i64c)→bar≤g.n→(∀ j,j<g0.n→g.get j=g0.get j) →
   CW (call tb prim) bar [3,9,10,11] EE [(3,a),(9,da),(10,.int .i64 (m.dirty.length:Nat)),(11,.int .i64 (i:Nat))] g Q
 | 0,i,g,a,l,hk,hu,hl,ho,hbg,hf=>by
  refine Ad EE.eq_1 ?_
  have hi:i=m.dirty.length:=by omega
  subst hi
  simp [go_sem]
  refine hQ _ _ a l rfl ho ?_
  rw [← hu,List.drop_length];simp [Jr]
 | k+1,i,g,a,l,hk,hu,hl,ho,hbg,hf=>by
  refine Ad EE.eq_1 ?_
  have hdl:m.dirty.length≤64:=by have:=v.m0;have:=v.m1;omega
  have hlt:i<m.dirty.length:=by omega
  have hlti:(i:Int)<(m.dirty.length:Int):=by omega
  have hw:=BF (n:=i) (by omega)
  obtain ⟨t,ht⟩:∃ t,t=m.dirty[i]:=⟨_,rfl⟩
  have hx:(Kr m.dirty)[i]? = some (.bool t):=by
   unfold Kr;rw [List.getElem?_map,List.getElem?_eq_getElem hlt,ht];rfl
  have hdr:m.dirty.drop i=t::m.dirty.drop (i+1):=by rw [ht];exact List.drop_eq_getElem_cons hlt
  have hv:Vw 1 g da m.dirty.length (Kr m.dirty):=(v.od.vw (by omega)).keep (by have:=v.lt;omega) (fun j hj=>hf j (v.od.at_lt hj).2)
  have ho1:=ho.one
  rw [hdr] at hu
  simp [go_sem,AB,hlti]
  refine Qd hv hlt hx fun u=>?_
  cases t with
  | false =>
   have hN:=PH v hb Q hQ k (i+1) g a l (by omega) (by simpa [Jr] using hu) (by omega) ho hbg hf
   simp [go_sem,AB,hw]
   exact hN
  | true =>
   obtain ⟨g2,e1,o1,n1,f1⟩:=ho.app hbg 8 [.int .i64 (i:Int)] rfl rfl (by omega) (by omega) (by omega)
   have hN:=PH v hb Q hQ k (i+1) g2 (.sl (g.n+1) 0 1 (l.length+1) false) (l++[(i:Int)]) (by omega) (by simpa [Jr] using hu) (by simp;omega) (by simpa [i64c] using o1) (by omega) (fun j hj=>by rw [f1 j (by omega) (fun q=>by have:=(ho.at_lt q).1;omega)];exact hf j hj)
   have hs1:AL [AV.int .i64 0] 0 [AV.int .i64 (i:Int)]=[.int .i64 (i:Int)]:=rfl
   simp [go_sem,AB,AX,Af,Ap,hs1,e1,hw]
   exact hN
theorem Xn (v:MemV g b M m ba da):∃ r,call tb prim DG [.ptr M 0] bar g=some (r,g)∧FzV 1 r (Jr m.dirty 0).length ((Jr m.dirty 0).flatMap i64c):=by
 have hg:=v.get
 have hl:=v.od.len
 have hu:=Uu m.dirty 0
 have hdl:m.dirty.length≤64:=by have:=v.m0;have:=v.m1;omega
 obtain ⟨r,hc,h⟩:=CG (o:=call tb prim) (F:=f_cells_Memory_Dirty) (bar:=bar) (h:=g) (args:=[.ptr M 0]) (P:=fun r=>FzV 1 r (Jr m.dirty 0).length ((Jr m.dirty 0).flatMap i64c)) rfl rfl (fun K hK=>by
  simp [f_cells_Memory_Dirty,AO,go_sem,AB,AG,hg,hl,As]
  refine PH v (Nat.le_refl _) _ (fun e g' a l q3 ho hlu=>?_) m.dirty.length 0 g .nilsl [] (by omega) (by simp) (by simp) OW.nil (Nat.le_refl _) (fun _ _=>rfl)
  subst hlu
  obtain ⟨a',h',hfz,hfv⟩:=ho.freezeW (We _) (by omega) 2
  simp [go_sem,q3]
  simp [go_sem,Bf,AA,AE,AD,AV.free.freeL,AF,hfz,hfv.free]
  exact hK _ hfv)
 exact ⟨r,AQ LU hc,h⟩
end
end Go.Ev
set_option linter.unusedSectionVars false
namespace Go.Ev
open Go
def VB (x:Int):UInt8:=x.toNat.toUInt8
theorem IK:∀ (l:List Int),(∀ x ∈ l,0≤x∧x<256)→Eg (Df l)=some (l.map VB)
 | [],_=>rfl
 | x::r,h=>by
  have h1:=h x (List.mem_cons_self ..)
  have h2:=IK r fun y hy=>h y (List.mem_cons_of_mem _ hy)
  show (match Ks (.int .u8 x),Eg (Df r) with | some b,some l=>some (b::l) | _,_=>none)=_
  rw [h2]
  have h3:Ks (.int .u8 x)=some (VB x):=by
   unfold Ks VB
   first | rfl | simp [h1.1,h1.2] | (simp;omega)
  rw [h3]
  rfl
theorem Pd {o:Oracle} {bar:Nat} {g:H} {r:AV} {n:Nat} {cs:List AV} {bs:List UInt8} (v:Vw 1 g r n cs) (hb:Eg cs=some bs) {e:Env} {k:Nat} (hx:(Opd.t k).ev e=some r):Ae o bar e g (.cbs (.t k))=some (.str ⟨bs.toArray⟩,g):=by
 have hs:=Hb v
 obtain ⟨_,_,⟨rfl,_⟩ | ⟨f,rfl⟩ | ⟨id,off,f,all,q,rfl,_⟩⟩:=v
 ·simp only [Ae,BH,hx,hs,hb]
 ·simp only [Ae,BH,hx,hs,hb]
 ·simp only [Ae,BH,hx,hs,hb]
theorem XK (x:Int) (k:IntKind):MU 0 (.int k x) (.int k x)=some true:=by
 simp [MU]
theorem Yb (x:Int × Int):Dy [0,0] (asC x) (asC x)=some true:=by
 simp [Dy,asC,XK]
section
variable {bar:Nat} {g:H}
theorem QN {xa xb:AV} {l:List (Int × Int)} {A B:Nat} {v t n:Int} (ha:FzV 2 xa l.length (l.flatMap asC)) (hb:FzV 2 xb l.length (l.flatMap asC)) (hA:g.get A=some (.cells [.int .i64 v,.int .i64 t,.int .i64 n,xa] 0)) (hB:g.get B=some (.cells [.int .i64 v,.int .i64 t,.int .i64 n,xb] 0)) (Q:Ex→Env→H→Prop) (hQ:∀ e,Q (.exit 0) e g) :
  ∀ (k i:Nat),l.length=i+k→CW (call tb prim) bar [2,3,36,37] Dt [(2,.ptr A 0),(3,.ptr B 0),(36,.int .i64 (l.length:Nat)),(37,.int .i64 (i:Nat))] g Q
 | 0,i,hk=>by
  refine Ad Dt.eq_1 ?_
  have hi:i=l.length:=by omega
  subst hi
  simp [go_sem]
  exact hQ _
 | k+1,i,hk=>by
  refine Ad Dt.eq_1 ?_
  have hll:=ha.2.1
  have hlt:i<l.length:=by omega
  have hlti:(i:Int)<(l.length:Int):=by omega
  have hw:=BF (n:=i) (by omega)
  have hN:=QN ha hb hA hB Q hQ k (i+1) (by omega)
  simp [go_sem,AB,hlti,hA,hB]
  refine Qe (c:=asC) (k:=2) (fun _=>rfl) (ha.vw g) (i:=i) hlt fun u=>?_
  simp [go_sem,AB,hA,hB]
  refine Qe (c:=asC) (k:=2) (fun _=>rfl) (hb.vw g) (i:=i) hlt fun u=>?_
  simp [go_sem,AB,Yb,hw]
  exact hN
theorem Vi {xa xb:AV} {l:List (Int × Int)} (v t n:Int) (ha:FzV 2 xa l.length (l.flatMap asC)) (hb:FzV 2 xb l.length (l.flatMap asC)):call tb prim DC [.agg [.int .i64 v,.int .i64 t,.int .i64 n,xa],.agg [.int .i64 v,.int .i64 t,.int .i64 n,xb]] bar g=some (.bool true,g):=by
 refine AQ Ko (AZ rfl rfl (BJ ?_))
 have hl1:=ha.len
 have hl2:=hb.len
 have o1:=ha.one
 have o2:=hb.one
 obtain ⟨h2,hh2⟩:∃ h2,h2=(g.alloc (.cells [.int .i64 v,.int .i64 t,.int .i64 n,xa] 0)).alloc (.cells [.int .i64 v,.int .i64 t,.int .i64 n,xb] 0):=⟨_,rfl⟩
 have gA:h2.get g.n=some (.cells [.int .i64 v,.int .i64 t,.int .i64 n,xa] 0):=by rw [hh2,AK,if_neg (by rw [AP];omega),AK,if_pos rfl]
 have gB:h2.get (g.n+1)=some (.cells [.int .i64 v,.int .i64 t,.int .i64 n,xb] 0):=by rw [hh2,AK,if_pos (by rw [AP])]
 simp [f_engramlaw14_results,AO,go_sem,AB,AG,o1,o2]
 rw [← hh2]
 simp [go_sem,AB,AG,gA,gB,hl1,hl2,As]
 refine QN ha hb gA gB _ (fun e=>?_) l.length 0 (by omega)
 simp [go_sem]
 simp [go_sem,AN,AM,AA,AE,AD,AC,AV.free.freeL,AV.free,AF,AH]
end
def Ct (M:Nat) (ba da:AV) (j:Nat):Prop:=j=M∨ba.isAt j∨da.isAt j
section
variable {bar:Nat} {g:H}
theorem MemV.lies_lt {b M:Nat} {m:Mem} {ba da:AV} (v:MemV g b M m ba da) {j:Nat} (h:Ct M ba da j):b≤j∧j<g.n:=by
 rcases h with rfl | h | h
 ·exact ⟨v.bM,v.lt⟩
 ·exact v.ob.at_lt h
 ·exact v.od.at_lt h
theorem MemV.keepL {g':H} {b M:Nat} {m:Mem} {ba da:AV} (v:MemV g b M m ba da) (hn:g.n≤g'.n) (h:∀ j,Ct M ba da j→g'.get j=g.get j):MemV g' b M m ba da :=
 v.mono hn (h _ (.inl rfl)) (fun j q=>h j (.inr (.inl q))) (fun j q=>h j (.inr (.inr q)))
theorem MemV.barL {b b' M:Nat} {m:Mem} {ba da:AV} (v:MemV g b M m ba da) (h:∀ j,Ct M ba da j→b'≤j):MemV g b' M m ba da :=
 ⟨v.get,h _ (.inl rfl),v.lt,v.ob.up (fun j q=>h j (.inr (.inl q))),v.od.up (fun j q=>h j (.inr (.inr q))),v.nb,v.nd,v.ap,v.sz,v.m0,v.m1,v.rng⟩
theorem Tk {fa aa:AV} {fs:List Fn} {cs:List Code'} {p mo:Int} {M:Nat} {m:Mem} {ba da:AV} (hu:UnitOk p mo fs cs) (hfa:FzV 3 fa fs.length (fs.flatMap Fn.cells)) (hbar:bar≤g.n) (hM:MemV g bar M m ba da) {va:AV} {vs:List AV} {nv:Nat} (hva0:Vw 1 g va nv vs) (xs:List (Int × Bool)) (hxl:xs.length=nv) (hof:∀ (i:Nat) (v:AV) x,vs[i]? = some v→xs[i]? = some x→Sb v x)
  {nm fuel:Int} (hf0:0≤fuel) (hf1:fuel≤1048576) {k:Nat} (hk:Ay nm fs 0=k) {f:Fn} (hf:fs[k]? = some f) {args:List Int} (hargs:f.args=args.length) (haa:FzV 1 aa args.length (args.map (AV.int .i64)))
  {s':Mc} {v:Int} {n':Nat} (hrun:DO fs cs fuel.toNat ⟨[Fc (codeW f) args],m,⟨xs.take 64,[]⟩,0⟩=some (s',v,n')) :
  ∃ g3 g5 xa ba' da',call tb prim CI [va] bar g=some (.ptr g.n 0,g3)∧g.n<g3.n∧(∀ j,j<g.n→g3.get j=g.get j) ∧
   call tb prim Bo [.agg [.int .i64 p,.int .i64 mo,fa],.ptr M 0,.ptr g.n 0,.int .i32 nm,.int .i64 fuel,aa] bar g3=some (IB v s'.trap n' xa,g5)∧FzV 2 xa s'.r.asks.length (s'.r.asks.flatMap asC)∧MemV g5 bar M s'.m ba' da'∧(∀ j,Ct M ba' da' j→Ct M ba da j∨g.n≤j)∧g.n≤g5.n∧(∀ j,j<g.n→¬ Ct M ba da j→g5.get j=g.get j):=by
 obtain ⟨g3,la,e3,hR,hlat,n3,k3⟩:=aG (bar:=bar) (g:=g) hva0 hbar xs hxl hof
 have hM3:MemV g3 bar M m ba da:=hM.keepL (by omega) (fun j q=>k3 j (hM.lies_lt q).2)
 have hR3:RowV g3 bar g.n ⟨xs.take 64,[]⟩ la .nilsl:=⟨hR.get,hbar,hR.lt,hR.l,OW.nil,hR.nl,hR.na,hR.ap,hR.sm⟩
 have hlt:=fun j (q:Ct M ba da j)=>(hM.lies_lt q).2
 have hnf:∀ j,¬ fa.isAt j:=fun j q=>by
  obtain ⟨_,_,⟨rfl,_⟩ | ⟨f,rfl⟩⟩:=hfa<;>exact q
 obtain ⟨xa,g5,own',ids,C,e5,hxa,hCM,_,_,hMO,_,k5,ag⟩:=XJ (bar:=bar) hu (hfa.vw g3) hM3 hR3 (by omega) (by have:=hM.lt;omega) (fun q=>by have:=hlt _ (.inr (.inl q));omega) (fun q=>by have:=hlt _ (.inr (.inr q));omega)
  (fun j hj=>by have:=hlat j hj;exact ⟨by have:=hM.lt;omega,fun q=>by have:=hlt _ (.inr (.inl q));omega,fun q=>by have:=hlt _ (.inr (.inr q));omega⟩) (fun j hj=>hj.elim)
  (fun j hj=>(hnf j hj).elim) hf0 hf1 hk hf (haa.vw g3) hargs (by simp) hrun
 have hfzl:∀ j,¬ (AV.nilsl).isAt j:=fun j q=>q
 obtain ⟨⟨ba',da',hM5,hb5,hd5⟩,hoM⟩:=hMO
 have own4:∀ j,j<g.n→Ga fa M g.n ba da la .nilsl j=4→ba.isAt j:=fun j hj h=>by
  have h1:¬ j=g.n:=by omega
  simp only [Ga,hnf,h1,if_false] at h
  by_cases c:j=M
  ·rw [if_pos c] at h;omega
  ·rw [if_neg c] at h
   by_cases c2:ba.isAt j
   ·exact c2
   ·rw [if_neg c2] at h
    by_cases c3:da.isAt j
    ·rw [if_pos c3] at h;omega
    ·rw [if_neg c3] at h
     by_cases c4:la.isAt j
     ·rw [if_pos c4] at h;omega
     ·simp only [c4,hfzl,if_false] at h;omega
 have own5:∀ j,j<g.n→Ga fa M g.n ba da la .nilsl j=5→da.isAt j:=fun j hj h=>by
  have h1:¬ j=g.n:=by omega
  simp only [Ga,hnf,h1,if_false] at h
  by_cases c:j=M
  ·rw [if_pos c] at h;omega
  ·rw [if_neg c] at h
   by_cases c2:ba.isAt j
   ·rw [if_pos c2] at h;omega
   ·rw [if_neg c2] at h
    by_cases c3:da.isAt j
    ·exact c3
    ·rw [if_neg c3] at h
     by_cases c4:la.isAt j
     ·rw [if_pos c4] at h;omega
     ·simp only [c4,hfzl,if_false] at h;omega
 refine ⟨g3,g5,xa,ba',da',e3,n3,k3,e5,by simpa using hxa,hM5,fun j hj=>?_,by have:=k5.1;omega,fun j hj hn=>?_⟩
 ·by_cases c:j<g.n
  ·rcases hj with rfl | h | h
   ·exact .inl (.inl rfl)
   ·have:=hb5 j h
    rw [ag j (by omega)] at this
    exact .inl (.inr (.inl (own4 j c this)))
   ·have:=hd5 j h
    rw [ag j (by omega)] at this
    exact .inl (.inr (.inr (own5 j c this)))
  ·exact .inr (by omega)
 ·rw [k5.2 j (by omega) ?_,k3 _ hj]
  have h1:j≠M:=fun q=>hn (.inl q)
  have h2:j≠g.n:=by omega
  have h3:¬ ba.isAt j:=fun q=>hn (.inr (.inl q))
  have h4:¬ da.isAt j:=fun q=>hn (.inr (.inr q))
  have h6:¬ la.isAt j:=fun q=>by have:=hlat j q;omega
  simp only [Ga,hnf,h1,h2,h3,h4,h6,hfzl,if_false]
  unfold tA
  omega
end
end Go.Ev
set_option linter.unusedSectionVars false
namespace Go.Ev
open Go
def CallT:={xs:List AV // Yo xs}
def CallT.c (x:CallT):List AV:=x.1
theorem CallT.len (x:CallT):x.c.length=3:=by
 obtain ⟨F,ca,fu,A,h,_⟩:=x.2
 show x.1.length=3
 rw [h];rfl
section
variable {bar:Nat} {g:H}
def Uv (M:Nat) (ba da:AV) (M':Nat) (ba' da':AV):Prop:=∀ j,Ct M ba da j→¬ Ct M' ba' da' j
structure Tri (g:H) (U M1 M2 M3:Nat) (m m3:Mem) (p mo:Int) (fa:AV):Prop where
 u:g.get U=some (.cells [.int .i64 p,.int .i64 mo,fa] 0)
 ul:U<g.n
 ex:∃ b1 d1 b2 d2 b3 d3,MemV g (U+1) M1 m b1 d1∧MemV g (U+1) M2 m b2 d2∧MemV g (U+1) M3 m3 b3 d3∧Uv M1 b1 d1 M2 b2 d2∧Uv M1 b1 d1 M3 b3 d3∧Uv M2 b2 d2 M3 b3 d3
theorem Xc (g:H) (i:Nat) (x y:AV):Vw 1 (g.alloc (.cells [x,y] 0)) (.sl g.n 0 1 2 true) 2 [x,y] :=
 ⟨rfl,by omega,.inr (.inr ⟨g.n,0,true,[x,y],0,rfl,by rw [AP];omega,by rw [AK,if_pos rfl],by simp,rfl⟩)⟩
theorem Xb (i j:Int):∀ (k:Nat) (v:AV) (x:Int × Bool),[AV.ifc EI (.int .i64 i),AV.ifc EI (.int .i64 j)][k]? = some v→[(i,true),(j,true)][k]? = some x→Sb v x
 | 0,v,x,h1,h2=>by simp at h1 h2;subst h1 h2;exact Wx i
 | 1,v,x,h1,h2=>by simp at h1 h2;subst h1 h2;exact Wx j
 | k+2,v,x,h1,_=>by simp at h1
theorem Tz {fa aa:AV} {fs:List Fn} {p mo:Int} {U M1 M2 M3:Nat} {m m3:Mem} (hu:UnitOk p mo fs (fs.map codeW)) (hfa:FzV 3 fa fs.length (fs.flatMap Fn.cells)) (hbar:bar≤U) (T:Tri g U M1 M2 M3 m m3 p mo fa) (i j:Int)
  {nm:Int} {k:Nat} (hk:Ay nm fs 0=k) {f:Fn} (hf:fs[k]? = some f) {args:List Int} (hargs:f.args=args.length) (haa:FzV 1 aa args.length (args.map (AV.int .i64)))
  {s':Mc} {v:Int} {n':Nat} (hrun:DO fs (fs.map codeW) 400 ⟨[Fc (codeW f) args],m,⟨[(i,true),(j,true)],[]⟩,0⟩=some (s',v,n')) :
  ∃ ga g3 g5 h6 xa gb g8 g9 h7 xb,ga=g.alloc (.cells [.ifc EI (.int .i64 i),.ifc EI (.int .i64 j)] 0)∧call tb prim CI [.sl g.n 0 1 2 true] bar ga=some (.ptr (g.n+1) 0,g3) ∧
   call tb prim Bo [.agg [.int .i64 p,.int .i64 mo,fa],.ptr M1 0,.ptr (g.n+1) 0,.int .i32 nm,.int .i64 400,aa] bar g3=some (IB v s'.trap n' xa,g5) ∧
   h6=(g5.alloc (.cells [.int .i64 0,.int .i64 0,.int .i64 0,.nilsl] 0)).set g5.n (.cells [.int .i64 v,.int .i64 s'.trap,.int .i64 n',xa] 0) ∧
   gb=h6.alloc (.cells [.ifc EI (.int .i64 i),.ifc EI (.int .i64 j)] 0)∧call tb prim CI [.sl h6.n 0 1 2 true] bar gb=some (.ptr (h6.n+1) 0,g8) ∧
   call tb prim Bo [.agg [.int .i64 p,.int .i64 mo,fa],.ptr M2 0,.ptr (h6.n+1) 0,.int .i32 nm,.int .i64 400,aa] bar g8=some (IB v s'.trap n' xb,g9) ∧
   h7=(g9.alloc (.cells [.int .i64 0,.int .i64 0,.int .i64 0,.nilsl] 0)).set g9.n (.cells [.int .i64 v,.int .i64 s'.trap,.int .i64 n',xb] 0) ∧
   FzV 2 xa s'.r.asks.length (s'.r.asks.flatMap asC)∧FzV 2 xb s'.r.asks.length (s'.r.asks.flatMap asC)∧Tri h7 U M1 M2 M3 s'.m m3 p mo fa ∧
   (ga.get U=some (.cells [.int .i64 p,.int .i64 mo,fa] 0)∧g3.get U=some (.cells [.int .i64 p,.int .i64 mo,fa] 0)∧g5.get U=some (.cells [.int .i64 p,.int .i64 mo,fa] 0)∧h6.get U=some (.cells [.int .i64 p,.int .i64 mo,fa] 0)) ∧
   (gb.get U=some (.cells [.int .i64 p,.int .i64 mo,fa] 0)∧g8.get U=some (.cells [.int .i64 p,.int .i64 mo,fa] 0)∧g9.get U=some (.cells [.int .i64 p,.int .i64 mo,fa] 0)) ∧
   bar≤g5.n∧bar≤g9.n∧g5.n<g9.n∧h7.get g5.n=some (.cells [.int .i64 v,.int .i64 s'.trap,.int .i64 n',xa] 0)∧h7.get g9.n=some (.cells [.int .i64 v,.int .i64 s'.trap,.int .i64 n',xb] 0):=by
 obtain ⟨gU,hUl,b1,d1,b2,d2,b3,d3,m1,m2,m3',a12,a13,a23⟩:=T
 obtain ⟨ga,hga⟩:∃ ga,ga=g.alloc (.cells [.ifc EI (.int .i64 i),.ifc EI (.int .i64 j)] 0):=⟨_,rfl⟩
 have na:ga.n=g.n+1:=by rw [hga,AP]
 have ka:∀ j,j<g.n→ga.get j=g.get j:=fun j hj=>by rw [hga,AK,if_neg (by omega)]
 have m1a:=m1.keepL (g':=ga) (by omega) (fun j q=>ka j (m1.lies_lt q).2)
 have m1b:MemV ga bar M1 m b1 d1:=m1a.barL (fun j q=>by have:=(m1.lies_lt q).1;omega)
 have hvw:=Xc g 0 (.ifc EI (.int .i64 i)) (.ifc EI (.int .i64 j))
 rw [← hga] at hvw
 obtain ⟨g3,g5,xa,b1',d1',e3,n3,k3,e5,hxa,m1',l1,n5,k5⟩:=Tk (bar:=bar) (g:=ga) (nm:=nm) (fuel:=400) (p:=p) (mo:=mo) hu hfa (by omega) m1b hvw [(i,true),(j,true)] rfl (Xb i j) (by omega) (by omega) hk hf hargs haa hrun
 rw [na] at e3 e5
 obtain ⟨h6,hh6⟩:∃ h6,h6=(g5.alloc (.cells [.int .i64 0,.int .i64 0,.int .i64 0,.nilsl] 0)).set g5.n (.cells [.int .i64 v,.int .i64 s'.trap,.int .i64 n',xa] 0):=⟨_,rfl⟩
 have n6:h6.n=g5.n+1:=by rw [hh6,AW,AP]
 have k6:∀ j,j<g5.n→h6.get j=g5.get j:=fun j hj=>by rw [hh6,AI (by omega),AK,if_neg (by omega)]
 have gR6:h6.get g5.n=some (.cells [.int .i64 v,.int .i64 s'.trap,.int .i64 n',xa] 0):=by rw [hh6,AU,if_pos rfl]
 obtain ⟨gb,hgb⟩:∃ gb,gb=h6.alloc (.cells [.ifc EI (.int .i64 i),.ifc EI (.int .i64 j)] 0):=⟨_,rfl⟩
 have nb:gb.n=h6.n+1:=by rw [hgb,AP]
 have kb:∀ j,j<h6.n→gb.get j=h6.get j:=fun j hj=>by rw [hgb,AK,if_neg (by omega)]
 
 have k1b:∀ j,j<g.n→¬ Ct M1 b1 d1 j→gb.get j=g.get j:=fun j hj hn=>by rw [kb j (by omega),k6 j (by omega),k5 j (by omega) hn,ka j hj]
 have m2b:=m2.keepL (g':=gb) (by omega) (fun j q=>k1b j (m2.lies_lt q).2 (fun r=>a12 j r q))
 have m3b:=m3'.keepL (g':=gb) (by omega) (fun j q=>k1b j (m3'.lies_lt q).2 (fun r=>a13 j r q))
 have m2c:MemV gb bar M2 m b2 d2:=m2b.barL (fun j q=>by have:=(m2.lies_lt q).1;omega)
 have hvw2:=Xc h6 0 (.ifc EI (.int .i64 i)) (.ifc EI (.int .i64 j))
 rw [← hgb] at hvw2
 obtain ⟨g8,g9,xb,b2',d2',e8,n8,k8,e9,hxb,m2',l2,n9,k9⟩:=Tk (bar:=bar) (g:=gb) (nm:=nm) (fuel:=400) (p:=p) (mo:=mo) hu hfa (by omega) m2c hvw2 [(i,true),(j,true)] rfl (Xb i j) (by omega) (by omega) hk hf hargs haa hrun
 rw [nb] at e8 e9
 obtain ⟨h7,hh7⟩:∃ h7,h7=(g9.alloc (.cells [.int .i64 0,.int .i64 0,.int .i64 0,.nilsl] 0)).set g9.n (.cells [.int .i64 v,.int .i64 s'.trap,.int .i64 n',xb] 0):=⟨_,rfl⟩
 have n7:h7.n=g9.n+1:=by rw [hh7,AW,AP]
 have k7:∀ j,j<g9.n→h7.get j=g9.get j:=fun j hj=>by rw [hh7,AI (by omega),AK,if_neg (by omega)]
 have gR7:h7.get g9.n=some (.cells [.int .i64 v,.int .i64 s'.trap,.int .i64 n',xb] 0):=by rw [hh7,AU,if_pos rfl]
 have k2b:∀ j,j<gb.n→¬ Ct M2 b2 d2 j→h7.get j=gb.get j:=fun j hj hn=>by rw [k7 j (by omega),k9 j (by omega) hn]
 
 have hl1:∀ j,Ct M1 b1' d1' j→U+1≤j∧j<g5.n∧¬ Ct M2 b2 d2 j∧¬ Ct M3 b3 d3 j:=fun j q=>by
  have q5:=(m1'.lies_lt q).2
  rcases l1 j q with r | r
  ·exact ⟨(m1.lies_lt r).1,q5,a12 j r,a13 j r⟩
  ·exact ⟨by omega,q5,fun s=>by have:=(m2.lies_lt s).2;omega,fun s=>by have:=(m3'.lies_lt s).2;omega⟩
 have hl2:∀ j,Ct M2 b2' d2' j→U+1≤j∧¬ Ct M1 b1' d1' j∧¬ Ct M3 b3 d3 j:=fun j q=>by
  rcases l2 j q with r | r
  ·exact ⟨(m2.lies_lt r).1,fun s=>(hl1 j s).2.2.1 r,a23 j r⟩
  ·exact ⟨by omega,fun s=>by have:=(hl1 j s).2.1;omega,fun s=>by have:=(m3'.lies_lt s).2;omega⟩
 have gUa:ga.get U=some (.cells [.int .i64 p,.int .i64 mo,fa] 0):=by rw [ka _ hUl];exact gU
 have nU1:¬ Ct M1 b1 d1 U:=fun q=>by have:=(m1.lies_lt q).1;omega
 have nU2:¬ Ct M2 b2 d2 U:=fun q=>by have:=(m2.lies_lt q).1;omega
 have gU3:g3.get U=some (.cells [.int .i64 p,.int .i64 mo,fa] 0):=by rw [k3 _ (by omega)];exact gUa
 have gU5:g5.get U=some (.cells [.int .i64 p,.int .i64 mo,fa] 0):=by rw [k5 _ (by omega) nU1];exact gUa
 have gU6:h6.get U=some (.cells [.int .i64 p,.int .i64 mo,fa] 0):=by rw [k6 _ (by omega)];exact gU5
 have gUb:gb.get U=some (.cells [.int .i64 p,.int .i64 mo,fa] 0):=by rw [kb _ (by omega)];exact gU6
 have gU8:g8.get U=some (.cells [.int .i64 p,.int .i64 mo,fa] 0):=by rw [k8 _ (by omega)];exact gUb
 have gU9:g9.get U=some (.cells [.int .i64 p,.int .i64 mo,fa] 0):=by rw [k9 _ (by omega) nU2];exact gUb
 have m1f:MemV h7 (U+1) M1 s'.m b1' d1':=by
  have:=m1'.keepL (g':=h7) (by omega) (fun j q=>by
   have:=hl1 j q
   rw [k2b j (by omega) this.2.2.1,kb j (by omega),k6 j (by omega)])
  exact this.barL (fun j q=>(hl1 j q).1)
 have m2f:MemV h7 (U+1) M2 s'.m b2' d2':=by
  have:=m2'.keepL (g':=h7) (by omega) (fun j q=>k7 j (m2'.lies_lt q).2)
  exact this.barL (fun j q=>(hl2 j q).1)
 have m3f:MemV h7 (U+1) M3 m3 b3 d3:=m3b.keepL (by omega) (fun j q=>k2b j (m3b.lies_lt q).2 (fun r=>a23 j r q))
 have hn5:¬ Ct M2 b2 d2 g5.n:=fun q=>by have:=(m2.lies_lt q).2;omega
 refine ⟨ga,g3,g5,h6,xa,gb,g8,g9,h7,xb,hga,e3,e5,hh6,hgb,e8,e9,hh7,hxa,hxb,⟨by rw [k7 _ (by omega)];exact gU9,by omega,b1',d1',b2',d2',b3,d3,m1f,m2f,m3f,fun j q r=>(hl2 j r).2.1 q,fun j q=>(hl1 j q).2.2.2,fun j q=>(hl2 j q).2.2⟩,⟨gUa,gU3,gU5,gU6⟩,⟨gUb,gU8,gU9⟩,by omega,by omega,by omega,?_,gR7⟩
 rw [k2b _ (by omega) hn5,kb _ (by omega)];exact gR6
end
end Go.Ev
set_option linter.unusedSectionVars false
namespace Go.Ev
open Go
theorem aj {o:Oracle} {bar:Nat} {e:Env} {h:H} {s:Nat} {w:Bool} (hs:e.get s=some (.bool w)) (d:Option Nat) (op:IOp) (r:List IOper):BQ o bar (⟨d,op,some (s,w)⟩::r) e h=Vl o bar (Ae o bar e h op) d r e:=by
 simp [BQ,EJ,hs,Vl]
 rfl
theorem aQ (x:ByteArray):Dp .neq x x=some (.bool false):=by simp [Dp]
theorem RE (x:ByteArray):Dp .eql x x=some (.bool true):=by simp [Dp]
section
variable {bar:Nat} {g:H}
theorem RQ {fa cl:AV} {fs:List Fn} {C:List CallT} {pg:Nat} {mo:Int} {U M1 M2 M3:Nat} {m3:Mem} (hG:GoodU fs) (hright:Co pg mo fs=0) (hfl:1≤fs.length) (hfa:FzV 3 fa fs.length (fs.flatMap Fn.cells)) (hC:FzV 3 cl C.length (C.flatMap CallT.c)) (hbar:bar≤U) (Q:Ex→Env→H→Prop)
  (hQ:∀ e g' m,e.get 5=some (.ptr U 0)→e.get 8=some (.ptr M3 0)→Tri g' U M1 M2 M3 m m3 pg mo fa→Q (.exit 0) e g') :
  ∀ (k i:Nat) (g:H) (m:Mem),min C.length 8=i+k→Tri g U M1 M2 M3 m m3 pg mo fa →
   CW (call tb prim) bar [1,5,6,7,8,9] Cg [(1,cl),(5,.ptr U 0),(6,.ptr M1 0),(7,.ptr M2 0),(8,.ptr M3 0),(9,.int .i64 (i:Nat))] g Q
 | 0,i,g,m,hk,T=>by
  refine Ad Cg.eq_1 ?_
  have hlen:=hC.len g
  have gU:=T.u
  by_cases c:i<C.length
  ·have hci:(i:Int)<(C.length:Int):=by omega
   have h8:¬ (i:Int)<8:=by omega
   simp [go_sem,AB,hlen,As,hci,h8,c]
   exact hQ _ _ m rfl rfl T
  ·have hci:¬ (i:Int)<(C.length:Int):=by omega
   simp [go_sem,AB,hlen,As,hci,c]
   exact hQ _ _ m rfl rfl T
 | k+1,i,g,m,hk,T=>by
  refine Ad Cg.eq_1 ?_
  have hlen:=hC.len g
  have gU:=T.u
  have hlt:i<C.length:=by omega
  have hci:(i:Int)<(C.length:Int):=by omega
  have h8:(i:Int)<8:=by omega
  have hw:IntKind.i64.wrap ((i:Int)+1)=(i:Int)+1:=BN (by omega) (by omega)
  have hu:=UnitOk.of_right hright
  have hone:=hfa.one
  obtain ⟨F,ca,fu,A,hc,hA⟩:=(C[i]).2
  have hcc:CallT.c C[i]=[.int .i64 F,ca,.int .i64 fu]:=hc
  obtain ⟨kk,f,aa,args,eA,hfk,haa,hal⟩:=ZC (bar:=bar) (g:=g) hfa hfl (by have:=hG.1;omega) (hA.vw g) pg mo F fu
  have hkl:=(List.getElem?_eq_some_iff.mp hfk).1
  have hfk2:fs[kk]=f:=(List.getElem?_eq_some_iff.mp hfk).2
  have hfind:Ay f.name fs 0=(kk:Int):=by rw [← hfk2];exact hG.find hkl
  have hfargs:f.args=args.length:=by
   have:=(hG.2.1 kk hkl).2
   rw [hfk2] at this
   rw [hal];unfold Qg;omega
  obtain ⟨s',v,n',r1,_⟩:=aH hright hfk hfargs m ⟨[((i:Int),true),((i:Int)+1,true)],[]⟩ 400
  obtain ⟨ga,g3,g5,h6,xa,gb,g8,g9,h7,xb,hga,e3,e5,hh6,hgb,e8,e9,hh7,hxa,hxb,T7,⟨gUa,gU3,gU5,gU6⟩,⟨gUb,gU8,gU9⟩,hb5,hb9,h59,gR5,gR9⟩:=Tz hu hfa hbar T (i:Int) ((i:Int)+1) hfind hfk hfargs haa r1
  unfold IB at e5 e9
  have oxa:=hxa.one
  have oxb:=hxb.one
  have hca1:=hA.one
  have T7':=T7
  obtain ⟨gU7,hU7,b1,d1,b2,d2,b3,d3,m1,m2,m3',_⟩:=T7
  have hrng:∀ x ∈ s'.m.b,0≤x∧x<256:=m1.rng
  obtain ⟨ea,va⟩:=Lk (bar:=bar) m1
  obtain ⟨eb,vb⟩:=Lk (bar:=bar) m2
  have ca1:=fun (e:Env) (k:Nat) (hx:(Opd.t k).ev e=some (Ft b1 s'.m.b))=>Pd (o:=call tb prim) (bar:=bar) (va.vw h7) (IK _ hrng) hx
  have cb1:=fun (e:Env) (k:Nat) (hx:(Opd.t k).ev e=some (Ft b2 s'.m.b))=>Pd (o:=call tb prim) (bar:=bar) (vb.vw h7) (IK _ hrng) hx
  have er:=Vi (bar:=bar) (g:=h7) v s'.trap (n':Int) hxa hxb
  have hN:=RQ hG hright hfl hfa hC hbar Q hQ k (i+1) h7 s'.m (by omega) T7'
  have hne:¬ g5.n=g9.n:=by omega
  simp [go_sem,AB,hlen,As,hci,h8,hlt,gU]
  refine Qe (c:=CallT.c) (k:=3) CallT.len (hC.vw g) hlt fun u=>?_
  rw [hcc]
  simp [go_sem,AB,gU,eA]
  refine ⟨⟨Ab rfl ?_,Ab rfl ?_⟩,?_⟩
  ·simp [-getElem?_pos,An,Ai,Aa,AS,AT,List.take,List.take_succ_cons,List.take_zero,go_sem,AB,AG,gU,AX,Af,Ap,Kk,OF,hw,← hga,e3,gUa,gU3,gU5,List.getElem?_cons_zero,List.getElem?_cons_succ]
  ·simp [-getElem?_pos,An,Ai,Aa,AS,AT,List.take,List.take_succ_cons,List.take_zero,go_sem,AB,AG,gU,AX,Af,Ap,Kk,OF,hw,← hga,e3,gUa,gU3,gU5,List.getElem?_cons_zero,List.getElem?_cons_succ]
  simp [go_sem,AB,AG,gU,AX,Af,Ap,Kk,OF,hw,← hga,e3,e5,gUa,gU3,gU5,AV.cells,oxa,Jj,hb5,← hh6,gU6,← hgb]
  have n6:h6.n=g5.n+1:=by rw [hh6,AW,AP]
  refine ⟨⟨Ab rfl ?_,Ab rfl ?_⟩,?_⟩
  ·simp [-getElem?_pos,An,Ai,Aa,AS,AT,List.take,List.take_succ_cons,List.take_zero,go_sem,AB,AG,gU6,AX,Af,Ap,Kk,OF,hw,← hgb,e8,gUb,gU8,gU9,List.getElem?_cons_zero,List.getElem?_cons_succ]
  ·simp [-getElem?_pos,An,Ai,Aa,AS,AT,List.take,List.take_succ_cons,List.take_zero,go_sem,AB,AG,gU6,AX,Af,Ap,Kk,OF,hw,← hgb,e8,gUb,gU8,gU9,List.getElem?_cons_zero,List.getElem?_cons_succ]
  simp [go_sem,AB,AG,gU6,AX,Af,Ap,Kk,OF,hw,← hgb,e8,e9,gUb,gU8,gU9,AV.cells,oxb,Jj,hb9,← hh7]
  simp [go_sem,AB,AG,gR5,gR9,er,ea,eb,ca1,cb1,hw,aQ]
  exact hN
theorem Pb {la cl:AV} {L:List Int} {C:List CallT} (hL:FzV 1 la L.length (L.flatMap i64c)) (hC:FzV 3 cl C.length (C.flatMap CallT.c)):call tb prim Cq [la,cl] bar g=some (.bool true,g):=by
 refine AQ Ij (AZ rfl rfl (BJ ?_))
 have eK:=fun g'=>Qs (bar:=g.n) (g:=g')
 obtain ⟨p,m,fa,fs,eU,hfa,hG,hp0,hpm,hm6,hfl⟩:=Xg (bar:=g.n) (h:=g) (hL.vw g)
 obtain ⟨pg,hpg⟩:∃ pg:Nat,p=pg:=⟨p.toNat,by omega⟩
 subst hpg
 have hright:Co (pg:Int) m fs=0:=hG.right hp0 (by omega) (by omega)
 obtain ⟨h1,hh1⟩:∃ h1,h1=(g.alloc (.cells [.int .i64 0,.int .i64 0,.nilsl] 0)).set g.n (.cells [.int .i64 pg,.int .i64 m,fa] 0):=⟨_,rfl⟩
 have n1:h1.n=g.n+1:=by rw [hh1,AW,AP]
 have gU1:h1.get g.n=some (.cells [.int .i64 pg,.int .i64 m,fa] 0):=by rw [hh1,AU,if_pos rfl]
 have hone:=hfa.one
 obtain ⟨g2,M1,b1,d1,e2,m1,n2,k2⟩:=QA (bar:=g.n) (g:=h1) pg m (by omega) (by omega) (by omega)
 obtain ⟨g3,M2,b2,d2,e3,m2,n3,k3⟩:=QA (bar:=g.n) (g:=g2) pg m (by omega) (by omega) (by omega)
 obtain ⟨g4,M3,b3,d3,e4,m3,n4,k4⟩:=QA (bar:=g.n) (g:=g3) pg m (by omega) (by omega) (by omega)
 have gU2:g2.get g.n=some (.cells [.int .i64 pg,.int .i64 m,fa] 0):=by rw [k2 _ (by omega)];exact gU1
 have gU3:g3.get g.n=some (.cells [.int .i64 pg,.int .i64 m,fa] 0):=by rw [k3 _ (by omega)];exact gU2
 have gU4:g4.get g.n=some (.cells [.int .i64 pg,.int .i64 m,fa] 0):=by rw [k4 _ (by omega)];exact gU3
 have T:Tri g4 g.n M1 M2 M3 (FO pg m) (FO pg m) pg m fa:=by
  refine ⟨gU4,by omega,b1,d1,b2,d2,b3,d3,?_,?_,?_,fun j q r=>?_,fun j q r=>?_,fun j q r=>?_⟩
  ·exact (m1.keepL (g':=g4) (by omega) (fun j q=>by have:=(m1.lies_lt q).2;rw [k4 _ (by omega),k3 _ this])).barL (fun j q=>by have:=(m1.lies_lt q).1;omega)
  ·exact (m2.keepL (g':=g4) (by omega) (fun j q=>by have:=(m2.lies_lt q).2;rw [k4 _ this])).barL (fun j q=>by have:=(m2.lies_lt q).1;omega)
  ·exact m3.barL (fun j q=>by have:=(m3.lies_lt q).1;omega)
  ·have:=(m1.lies_lt q).2;have:=(m2.lies_lt r).1;omega
  ·have:=(m1.lies_lt q).2;have:=(m3.lies_lt r).1;omega
  ·have:=(m2.lies_lt q).2;have:=(m3.lies_lt r).1;omega
 simp [f_engramlaw14_EngineCopies,AO,go_sem,AB,AG,eU,AV.cells,hone,BR,← hh1]
 refine ⟨⟨Ab rfl ?_,Ab rfl ?_,Ab rfl ?_,Ab rfl ?_,Ab rfl ?_,Ab rfl ?_⟩,?_⟩
 ·simp [-getElem?_pos,An,Ai,Aa,AS,AT,List.take,List.take_succ_cons,List.take_zero,go_sem,AB,AG,gU1,gU2,gU3,gU4,e2,e3,e4,List.getElem?_cons_zero,List.getElem?_cons_succ]
 ·simp [-getElem?_pos,An,Ai,Aa,AS,AT,List.take,List.take_succ_cons,List.take_zero,go_sem,AB,AG,gU1,gU2,gU3,gU4,e2,e3,e4,List.getElem?_cons_zero,List.getElem?_cons_succ]
 ·simp [-getElem?_pos,An,Ai,Aa,AS,AT,List.take,List.take_succ_cons,List.take_zero,go_sem,AB,AG,gU1,gU2,gU3,gU4,e2,e3,e4,List.getElem?_cons_zero,List.getElem?_cons_succ]
 ·simp [-getElem?_pos,An,Ai,Aa,AS,AT,List.take,List.take_succ_cons,List.take_zero,go_sem,AB,AG,gU1,gU2,gU3,gU4,e2,e3,e4,List.getElem?_cons_zero,List.getElem?_cons_succ]
 ·simp [-getElem?_pos,An,Ai,Aa,AS,AT,List.take,List.take_succ_cons,List.take_zero,go_sem,AB,AG,gU1,gU2,gU3,gU4,e2,e3,e4,List.getElem?_cons_zero,List.getElem?_cons_succ]
 ·simp [-getElem?_pos,An,Ai,Aa,AS,AT,List.take,List.take_succ_cons,List.take_zero,go_sem,AB,AG,gU1,gU2,gU3,gU4,e2,e3,e4,List.getElem?_cons_zero,List.getElem?_cons_succ]
 simp [go_sem,AB,AG,Bg,gU1,gU2,gU3,gU4,e2,e3,e4]
 refine RQ hG hright hfl hfa hC (Nat.le_refl _) _ (fun e g' mm q5 q8 T'=>?_) (min C.length 8) 0 g4 (FO pg m) (by omega) T
 obtain ⟨gU',hU',c1,x1,c2,x2,c3,x3,_,_,mz,_⟩:=T'
 obtain ⟨er,vr⟩:=Lk (bar:=g.n) mz
 have hz:(FO pg m).b=List.replicate (64*pg) 0∧(FO pg m).dirty=List.replicate pg false:=by simp [FO,Nat.mul_comm]
 rw [hz.1] at vr er
 have cr:=fun (e:Env) (k:Nat) (hx:(Opd.t k).ev e=some (Ft c3 (List.replicate (64*pg) 0)))=>Pd (o:=call tb prim) (bar:=g.n) (vr.vw g') (IK _ (fun x hx=>by rw [List.mem_replicate] at hx;omega)) hx
 obtain ⟨N,hN⟩:∃ N,N=64*pg:=⟨_,rfl⟩
 rw [← hN] at vr cr er
 obtain ⟨h5,hh5⟩:∃ h5,h5=g'.alloc (.cells (Df (List.replicate N 0)) 0):=⟨_,rfl⟩
 have vz:Vw 1 h5 (.sl g'.n 0 1 N true) N (Df (List.replicate N 0)):=⟨by simp [Df],by omega,.inr (.inr ⟨g'.n,0,true,_,0,rfl,by rw [hh5,AP];omega,by rw [hh5,AK,if_pos rfl],by simp [Df],by rw [List.drop_zero,List.take_of_length_le (by simp [Df])]⟩)⟩
 have cz:=fun (e:Env) (k:Nat) (hx:(Opd.t k).ev e=some (.sl g'.n 0 1 N true))=>Pd (o:=call tb prim) (bar:=g.n) vz (IK _ (fun x hx=>by rw [List.mem_replicate] at hx;omega)) hx
 have mz5:MemV h5 (g.n+1) M3 (FO pg m) c3 x3:=mz.keepL (by rw [hh5,AP];omega) (fun j q=>by have:=(mz.lies_lt q).2;rw [hh5,AK,if_neg (by omega)])
 obtain ⟨rd,ed,vd⟩:=Xn (bar:=g.n) mz5
 obtain ⟨er5,vr5⟩:=Lk (bar:=g.n) mz5
 rw [hz.1,← hN] at er5
 have cr5:=fun (e:Env) (k:Nat) (hx:(Opd.t k).ev e=some (Ft c3 (List.replicate N 0)))=>Pd (o:=call tb prim) (bar:=g.n) (vr.vw h5) (IK _ (fun x hx=>by rw [List.mem_replicate] at hx;omega)) hx
 rw [hz.2,Tt] at vd
 have hdl:=vd.len
 have hw:IntKind.i64.wrap ((pg:Int)*64)=(N:Int):=by rw [BN (by omega) (by omega)];omega
 have gU5:h5.get g.n=some (.cells [.int .i64 pg,.int .i64 m,fa] 0):=by rw [hh5,AK,if_neg (by omega)];exact gU'
 have hr8:rep [AV.int .u8 0] N=Df (List.replicate N 0):=MT _
 have hc1:(N:Int)≤140737488355328:=by omega
 have hc2:(N:Int)≤9223372036854775807:=by omega
 simp [go_sem,q5,q8]
 refine ⟨⟨Ab rfl ?_,Ab rfl ?_⟩,?_⟩
 ·simp [-getElem?_pos,An,Ai,Aa,AS,AT,List.take,List.take_succ_cons,List.take_zero,aj,go_sem,AB,AG,er,cr,er5,cr5,gU',hw,hc1,hc2,hr8,← hh5,cz,RE,ed,hdl,eK,As,List.getElem?_cons_zero,List.getElem?_cons_succ]
 ·simp [-getElem?_pos,An,Ai,Aa,AS,AT,List.take,List.take_succ_cons,List.take_zero,aj,go_sem,AB,AG,er,cr,er5,cr5,gU',hw,hc1,hc2,hr8,← hh5,cz,RE,ed,hdl,eK,As,List.getElem?_cons_zero,List.getElem?_cons_succ]
 simp [go_sem,AB,AG,er,cr,gU',hw,hc1,hc2,hr8,← hh5,cz,RE,ed,hdl,eK,As]
 simp [go_sem,AN,AM,AA,AE,AD,AC,AV.free.freeL,AV.free,AF,AH]
end
end Go.Ev
