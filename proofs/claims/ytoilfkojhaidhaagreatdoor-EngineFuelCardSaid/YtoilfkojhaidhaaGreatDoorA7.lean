/- Part 7 of the proof that a law of this seat (the one that GOCLAIM.json names) returns true for every argument; nothing is assumed. -/
import Derived.Test.YtoilfkojhaidhaaGreatDoorA6
set_option linter.unusedSimpArgs false
set_option linter.unusedVariables false
set_option linter.all false
set_option linter.unusedSectionVars false
namespace Go.Ev
open Go
theorem XR {sg:Int} {st st':List Int} {m m':Mem} {tr tr':Int} (h:QW sg st m tr=some (st',m',tr')):st'.length≤st.length+1:=by
 unfold QW at h
 repeat' split at h
 all_goals first
  | cases h;simp;done
  | cases h;simp;omega
  | cases h
theorem Po {t:Tok} {st st':List Int} {r r':Row} {tr tr':Int} (h:IT t st r tr=some (st',r',tr')):st'.length≤st.length+1∧r'.asks.length≤r.asks.length+1:=by
 have hask:∀ nm n,(FR r nm n).1.asks.length≤r.asks.length+1:=fun nm n=>by
  unfold FR;split<;>simp
 unfold IT at h
 repeat' split at h
 all_goals first
  | cases h;exact ⟨by first | omega | (simp only [List.length_cons];omega),by first | exact hask _ _ | omega⟩
  | cases h
theorem SS:∀ (r:List Fm) (f:Fm) {fr:List Fm},Du f r=some (fr,none)→Mz (f::r)→Mz fr∧EU fr≤EU (f::r)∧fr.length≤(f::r).length∧∃ f' r',fr=f'::r'∧f'.at'<f'.c.l.length
 | r,f,fr,h,hg=>by
  unfold Du at h
  split at h
  ·rename_i hlt
   cases h;exact ⟨hg,Nat.le_refl _,Nat.le_refl _,f,r,rfl,hlt⟩
  ·split at h
   ·cases h
   ·rename_i v st hst
    split at h
    ·cases h
    ·rename_i g2 r2
     obtain ⟨h1,h2,h3,h4⟩:=SS r2 { g2 with st:=v::g2.st } h (fun x hx k hk=>by
      rcases List.mem_cons.mp hx with rfl | hx
      ·exact hg g2 (by simp) k hk
      ·exact hg x (by simp [hx]) k hk)
     refine ⟨h1,?_,?_,h4⟩
     ·simp only [EU,hst,List.length_cons] at h2 ⊢;omega
     ·simp only [List.length_cons] at h3 ⊢;omega
theorem VN {fs:List Fn} {cs:List Code'} {s s':Mc} (hc:∀ c ∈ cs,∀ k ∈ c.l,ET k.sign=true) (hg:Mz s.fr) (h:HE fs cs s=some s') (hl:s.fr.length≤32) :
  Mz s'.fr∧EU s'.fr≤EU s.fr+1∧s'.r.asks.length≤s.r.asks.length+1∧s'.fr.length≤32:=by
 cases hfr:s.fr with
 | nil=>unfold HE at h;rw [hfr] at h;cases h
 | cons f r =>
  have one:∀ f':Fm,f'.c=f.c→f'.st.length≤f.st.length+1→Mz (f'::r)∧EU (f'::r)≤EU (f::r)+1∧(f'::r).length≤32:=fun f' h1 h2=>by
   refine ⟨fun x hx k hk=>?_,by simp only [EU];omega,by rw [hfr] at hl;exact hl⟩
   rw [hfr] at hg
   rcases List.mem_cons.mp hx with rfl | hx
   ·rw [h1] at hk;exact hg f (by simp) k hk
   ·exact hg x (by simp [hx]) k hk
  have fin:∀ f':Fm,s'.fr=f'::r→f'.c=f.c→f'.st.length≤f.st.length+1→s'.r.asks.length≤s.r.asks.length+1→Mz s'.fr∧EU s'.fr≤EU (f::r)+1∧s'.r.asks.length≤s.r.asks.length+1∧s'.fr.length≤32:=fun f' h3 h1 h2 h4=>by
   rw [h3];obtain ⟨a,b,c⟩:=one f' h1 h2;exact ⟨a,b,h4,c⟩
  unfold HE at h
  rw [hfr] at h
  simp only at h
  split at h
  ·cases h
  ·split at h
   ·cases h;exact fin _ rfl rfl (by simp) (by simp)
   ·split at h
    ·split at h
     ·cases h
     ·cases h;exact fin _ rfl rfl (by simp) (by simp)
    ·split at h
     ·split at h
      ·cases h
      ·rename_i hst
       cases h;exact fin _ rfl rfl (by simp [hst];omega) (by simp)
     ·split at h
      ·split at h
       ·cases h
       ·rename_i c hcc
        split at h
        ·cases h
        ·split at h
         ·cases h;exact fin _ rfl rfl (by simp;omega) (by simp)
         ·rename_i hd
          cases h
          obtain ⟨a1,a2,a3⟩:=one { f with at':=f.at'+1,st:=f.st.drop c.args.toNat } rfl (by simp;omega)
          refine ⟨fun x hx k hk=>?_,?_,by simp,?_⟩
          ·rcases List.mem_cons.mp hx with rfl | hx
           ·exact hc c (List.mem_of_getElem? hcc) k hk
           ·exact a1 x hx k hk
          ·show 0+EU _≤_
           omega
          ·simp at hd ⊢;omega
      ·split at h
       ·split at h
        ·split at h
         ·cases h
         ·rename_i hst
          split at h
          ·cases h;exact fin _ rfl rfl (by simp [hst];omega) (by simp)
          ·split at h
           ·cases h
           ·split at h
            ·cases h
            ·cases h;exact fin _ rfl rfl (by simp [hst];omega) (by simp)
        ·split at h
         ·cases h
         ·split at h
          ·cases h
          ·cases h;exact fin _ rfl rfl (by simp) (by simp)
       ·split at h
        ·split at h
         ·cases h
         ·rename_i hm
          cases h;exact fin _ rfl rfl (XR hm) (by simp)
        ·split at h
         ·cases h
         ·rename_i hm
          cases h;exact fin _ rfl rfl (Po hm).1 (Po hm).2
section
variable {bar b:Nat} {g:H} {own:Nat→Nat} {C:Cx}
theorem XO.cell7 {tr val:Int} {ids:List Nat} (v:XO g b own C tr val ids):∃ cs,g.get C.X=some (.cells cs 0)∧cs[7]? = some (.int .i64 tr):=by
 obtain ⟨⟨fra,h,_⟩,_⟩:=v;exact ⟨_,h,rfl⟩
def dR (g:H) (b:Nat) (own:Nat→Nat) (C:Cx) (s:Mc) (v:Int):Prop:=(∃ ids,XO g b own C s.trap v ids)∧MemO g b own C.M s.m∧RowO g b own C.R s.r∧b≤g.n
theorem Xn (hb:bar≤b) (asked:Int) (rc:Nat) (hcs:∀ x ∈ C.rows,∀ k ∈ x.2.2.l,ET k.sign=true) (Q:Ex→Env→H→Prop):∀ (n:Nat) (g:H) (own:Nat→Nat) (s:Mc) (ids:List Nat) {s':Mc} {v:Int} {n':Nat},XV g b own C s 0 ids→Mz s.fr→EU s.fr+n<2999999→s.r.asks.length+n<1999999→s.fr.length≤32→(n:Int)≤1048576 →
  By C.fs (C.rows.map (·.2.2)) n s=some (s',v,n') →
  (∀ e g' own',dR g' b own' C s' v→Kp own tA g g'→Agr g.n own own'→e.get 2=some (.ptr C.R 0)→e.get 4=some (.int .i64 n')→e.get 12=some (.ptr rc 0)→e.get 16=some (.int .i64 asked)→e.get 17=some (.ptr C.X 0)→Q (.exit 0) e g') →
  Cv (call tb prim) bar [2,4,12,16,17] Gy [(2,.ptr C.R 0),(4,.int .i64 n),(12,.ptr rc 0),(16,.int .i64 asked),(17,.ptr C.X 0)] g Q:=by
 intro n
 induction n with
 | zero =>
  intro g own s ids s' v n' xv hg hT hA hL hn hr hq
  refine Am Gy.eq_1 ?_
  obtain ⟨cs,c1,c7⟩:=xv.x.cell7
  by_cases ht:s.trap=0
  ·have hd:(s.trap == 0)=true:=by simpa using ht
   have xv0:=xv
   cases hfr:s.fr with
   | nil=>unfold By at hr;rw [if_neg (by simpa using ht),hfr] at hr;cases hr
   | cons f r =>
    have hv:FrsV g b own (f::r) ids:=hfr ▸ xv.fr
    cases ids with
    | nil=>exact hv.elim
    | cons i l =>
     cases he:Du f r with
     | none=>unfold By at hr;rw [if_neg (by simpa using ht),hfr] at hr;simp only [he] at hr;cases hr
     | some out =>
      obtain ⟨g1,own1,e1,k1,a1,hE⟩:=UA (bar:=bar) hb xv.bn xv.x hv (by rw [hfr] at hT;omega) he
      have m1:=xv.m.mono k1 a1 (by unfold tE;omega)
      have r1:=xv.r.mono k1 a1 (by unfold tE;omega)
      have hbn1:b≤g1.n:=by have:=k1.1;have:=xv.bn;omega
      unfold By at hr
      rw [if_neg (by simpa using ht),hfr] at hr
      simp only [he] at hr
      match out,hr,e1,hE with
      | (fr,some v2),hr,e1,hE =>
       simp only at hr
       cases hr
       simp only [Option.isNone] at e1
       simp [go_sem,AA,AB,AC,AF,AD,AH,AE,AQ,a21,AR,AS,a51,AT,AU,AM,c1,c7,hd,e1]
       refine hq _ g1 own1 ⟨⟨[],?_⟩,m1,r1,hbn1⟩ (k1.le fun k h=>VQ h) a1 rfl rfl rfl rfl rfl
       exact hE.2
      | (fr,none),hr,e1,hE =>
       simp only at hr
       simp only [Option.isNone] at e1
       obtain ⟨j,ids',x1,f1⟩:=hE
       cases hr
       have x1':=x1
       obtain ⟨⟨fra,q1,q2,q3⟩,qo,qb,ql,qs⟩:=x1'
       have hsp:AW (xC C fra s.trap 0) 7 [.int .i64 1]=xC C fra 1 0:=rfl
       have hle:7+1≤(xC C fra s.trap 0).length:=by simp [xC]
       obtain ⟨xc,hxc⟩:∃ xc,xc=xC C fra s.trap 0:=⟨_,rfl⟩
       rw [← hxc] at q1 hsp hle
       have hbx:bar≤C.X:=Nat.le_trans hb qb
       obtain ⟨g2,hg2⟩:∃ g2,g2=g1.set C.X (.cells (xC C fra 1 0) 0):=⟨_,rfl⟩
       have k2:Kp own1 (fun k=>k=1) g1 g2:=⟨by rw [hg2,AF];exact Nat.le_refl _,fun j hj hs=>by rw [hg2,AO (fun q=>hs (by rw [q];exact qo))]⟩
       simp [go_sem,AA,AB,AC,AF,AD,AH,AE,AQ,a21,AR,AS,a51,AT,AU,AM,c1,c7,hd,e1,q1,hsp,hle,hbx]
       rw [← hg2]
       refine hq _ g2 own1 ⟨⟨j::ids',⟨⟨fra,by rw [hg2,AC,if_pos rfl],q2.mono k2.1 (fun j hj=>by rw [hg2,AO (fun q=>by have:=q3 j hj;rw [q,qo] at this;omega)]),q3⟩,qo,qb,by rw [hg2,AF];exact ql,qs⟩⟩,m1.mono k2 Agr.refl (by omega),r1.mono k2 Agr.refl (by omega),by have:=k2.1;omega⟩ ((k1.le fun k h=>VQ h).trans a1 (k2.le fun k h=>by unfold tA;omega)) a1 rfl rfl rfl rfl rfl
  ·have hd:(s.trap == 0)=false:=by simpa using ht
   unfold By at hr
   rw [if_pos ht] at hr
   cases hr
   simp [go_sem,AA,AB,AC,AF,AD,AH,AE,AQ,a21,AR,AS,a51,AT,AU,AM,c1,c7,hd]
   exact hq _ g own ⟨⟨ids,xv.x⟩,xv.m,xv.r,xv.bn⟩ Kp.refl Agr.refl rfl rfl rfl rfl rfl
 | succ n ih =>
  intro g own s ids s' v n' xv hg hT hA hL hn hr hq
  refine Am Gy.eq_1 ?_
  obtain ⟨cs,c1,c7⟩:=xv.x.cell7
  by_cases ht:s.trap=0
  ·have hd:(s.trap == 0)=true:=by simpa using ht
   have xv0:=xv
   cases hfr:s.fr with
   | nil=>unfold By at hr;rw [if_neg (by simpa using ht),hfr] at hr;cases hr
   | cons f r =>
    have hv:FrsV g b own (f::r) ids:=hfr ▸ xv.fr
    cases ids with
    | nil=>exact hv.elim
    | cons i l =>
     cases he:Du f r with
     | none=>unfold By at hr;rw [if_neg (by simpa using ht),hfr] at hr;simp only [he] at hr;cases hr
     | some out =>
      obtain ⟨g1,own1,e1,k1,a1,hE⟩:=UA (bar:=bar) hb xv.bn xv.x hv (by rw [hfr] at hT;omega) he
      have m1:=xv.m.mono k1 a1 (by unfold tE;omega)
      have r1:=xv.r.mono k1 a1 (by unfold tE;omega)
      have hbn1:b≤g1.n:=by have:=k1.1;have:=xv.bn;omega
      unfold By at hr
      rw [if_neg (by simpa using ht),hfr] at hr
      simp only [he] at hr
      match out,hr,e1,hE with
      | (fr,some v2),hr,e1,hE =>
       simp only at hr
       cases hr
       simp only [Option.isNone] at e1
       simp [go_sem,AA,AB,AC,AF,AD,AH,AE,AQ,a21,AR,AS,a51,AT,AU,AM,c1,c7,hd,e1]
       refine hq _ g1 own1 ⟨⟨[],?_⟩,m1,r1,hbn1⟩ (k1.le fun k h=>VQ h) a1 rfl rfl rfl rfl rfl
       exact hE.2
      | (fr,none),hr,e1,hE =>
       simp only at hr
       simp only [Option.isNone] at e1
       obtain ⟨j,ids',x1,f1⟩:=hE
       obtain ⟨hg1,ht1,hl1,f',r',rfl,hlt⟩:=SS r f he (by rw [← hfr];exact hg)
       have cx1:=xv.cx.mono k1 a1 (by unfold tE;omega)
       have xv1:XV g1 b own1 C { s with fr:=f'::r' } 0 (j::ids'):=⟨x1,cx1,f1,m1,r1,hbn1⟩
       split at hr
       ·cases hr
       ·rename_i s2 hs2
        have hT':EU (f'::r')+n<2999998:=by rw [hfr] at hT;omega
        obtain ⟨hg2,ht2,ha2,hl2⟩:=VN (s:={ s with fr:=f'::r' }) (fun c hc k hk=>by
         obtain ⟨x,hx,rfl⟩:=List.mem_map.mp hc
         exact hcs x hx k hk) hg1 hs2 (by rw [hfr] at hL;simp only [List.length_cons] at hL hl1 ⊢;omega)
        have hil:ids'.length=r'.length:=f1.2.len
        obtain ⟨g2,own2,ids2,e2,xv2,k2,a2⟩:=Zb (bar:=bar) xv1 rfl hb hs2 hg1 (by show EU (f'::r')<_;omega) (by show s.r.asks.length<_;omega) (by rw [hil];rw [hfr] at hL;simp only [List.length_cons] at hL hl1;omega)
        obtain ⟨sid,all,full,tX,tS,tt,_⟩:=x1.top
        obtain ⟨xc,hxc⟩:∃ xc,xc=xC C (.sl sid 0 1 (ids'.length+1) full) s.trap 0:=⟨_,rfl⟩
        have h6:xc[6]? = some (.sl sid 0 1 (ids'.length+1) full):=by rw [hxc];rfl
        rw [← hxc] at tX
        have hwi:IntKind.i64.wrap (ids'.length:Int)=(ids'.length:Nat):=BU (by omega) (by rw [hil];rw [hfr] at hL;simp only [List.length_cons] at hL hl1;omega)
        have hltI:(ids'.length:Int)<(ids'.length:Int)+1:=by omega
        have hz:(((n:Int)+1) == 0)=false:=by simp;omega
        have hwn:IntKind.i64.wrap (n:Int)=(n:Nat):=BU (by omega) (by omega)
        simp [go_sem,AA,AB,AC,AF,AD,AH,AE,AQ,a21,AR,AS,a51,AT,AU,AM,c1,c7,hd,e1,hz,hwn,tX,h6,hwi,hltI,AP,tS,tt,e2]
        have kk:Kp own tA g g2:=(k1.le fun k h=>VQ h).trans a1 k2
        have aa:Agr g.n own own2:=Agr.trans a1 a2 k1.1
        exact ih g2 own2 s2 ids2 xv2 hg2 (by have:EU s2.fr≤EU (f'::r')+1:=ht2;omega) (by have:s2.r.asks.length≤s.r.asks.length+1:=ha2;omega) hl2 (by omega) hr (fun e g' own' h1 h2 h3=>hq e g' own' h1 (kk.trans aa h2) (Agr.trans aa h3 kk.1))
  ·have hd:(s.trap == 0)=false:=by simpa using ht
   unfold By at hr
   rw [if_pos ht] at hr
   cases hr
   simp [go_sem,AA,AB,AC,AF,AD,AH,AE,AQ,a21,AR,AS,a51,AT,AU,AM,c1,c7,hd]
   exact hq _ g own ⟨⟨ids,xv.x⟩,xv.m,xv.r,xv.bn⟩ Kp.refl Agr.refl rfl rfl rfl rfl rfl
end
end Go.Ev
set_option linter.unusedSectionVars false
namespace Go.Ev
open Go
theorem FzV.drop {k:Nat} {a:AV} {n:Nat} {cs:List AV} (v:FzV k a n cs) {i:Nat} (hi:i≤n):∃ a',BN k a (some (.int .i64 (i:Int))) none none=some a'∧FzV k a' (n - i) (cs.drop (i*k)):=by
 obtain ⟨h1,h2,⟨rfl,rfl⟩ | ⟨full,rfl⟩⟩:=v
 ·have hi0:i=0:=by omega
  subst hi0
  refine ⟨.nilsl,by simp [BN,Ae,BR],by simp [h1],by omega,.inl ⟨rfl,rfl⟩⟩
 ·have e1:Ae 0 (some (AV.int .i64 (i:Int)))=some i:=by simp [Ae,BR]
  have e2:∀ n,Ae n none=some n:=fun _=>rfl
  refine ⟨.fz k (n - i) ((cs.drop (i*k)).take ((n - i)*k)) (full&&decide (n=n)),?_,?_,by omega,?_⟩
  ·simp only [BN,e1,e2]
   rw [if_pos ⟨trivial,h1,by omega,Nat.le_refl _⟩]
  ·rw [List.length_drop,h1,Nat.sub_mul]
  ·exact .inr ⟨_,by rw [List.take_of_length_le (by rw [List.length_drop,h1,Nat.sub_mul];exact Nat.le_refl _)]⟩
theorem Ww (r:Row) (nm n:Int):∃ l,(FR r nm n).1.asks=r.asks++l:=by
 unfold FR;split<;>exact ⟨_,rfl⟩
theorem Uu {t:Tok} {st st':List Int} {r r':Row} {tr tr':Int} (h:IT t st r tr=some (st',r',tr')):∃ l,r'.asks=r.asks++l:=by
 unfold IT at h
 repeat' split at h
 all_goals first
  | cases h;exact Ww _ _ _
  | cases h;exact ⟨[],by simp⟩
  | cases h
theorem Wc {fs:List Fn} {cs:List Code'} {s s':Mc} (h:HE fs cs s=some s'):∃ l,s'.r.asks=s.r.asks++l:=by
 unfold HE at h
 repeat' split at h
 all_goals first
  | cases h;done
  | (rename_i hm;cases h;exact Uu hm)
  | cases h;exact ⟨[],by simp⟩
theorem TE {fs:List Fn} {cs:List Code'}:∀ (n:Nat) {s s':Mc} {v:Int} {n':Nat},By fs cs n s=some (s',v,n')→∃ l,s'.r.asks=s.r.asks++l
 | n,s,s',v,n',h=>by
  unfold By at h
  split at h
  ·cases h;exact ⟨[],by simp⟩
  ·split at h
   ·cases h
   ·split at h
    ·cases h
    ·cases h;exact ⟨[],by simp⟩
    ·split at h
     ·cases h;exact ⟨[],by simp⟩
     ·split at h
      ·cases h
      ·rename_i hs
       obtain ⟨l1,h1⟩:=Wc hs
       obtain ⟨l2,h2⟩:=TE _ h
       exact ⟨l1++l2,by rw [h2,h1];simp⟩
theorem Hs (a b c d u v w x:AV):AW [a,b,c,d] 0 [u,v,w,x]=[u,v,w,x]:=Eq.trans rfl rfl
theorem LW {z:List AV} {off n:Nat} {v:AV} {r:List (Nat × Nat × AV)} (h1:v.cells.length=n) (h2:off+n≤z.length) (h3:v.cells.all AV.one=true):Aq z ((off,n,v)::r)=Aq (AW z off v.cells) r:=by
 rw [Aq,if_pos ⟨h1,h2,h3⟩]
theorem Ci {z:List AV} {off:Nat} {v:AV} {r:List (Nat × Nat × AV)} (h:v.one=true) (h2:off+1≤z.length):Aq z ((off,1,v)::r)=Aq (AW z off [v]) r:=by
 have e:=GI h
 rw [LW (by rw [e];rfl) h2 (by rw [e];simp [h]),e]
theorem cB (p mo:Int) {fa ca:AV} (h1:fa.one=true) (h2:ca.one=true) (M R:Nat):Aq [.int .i64 0,.int .i64 0,.nilsl,.nilsl,.nilptr,.nilptr,.nilsl,.int .i64 0,.int .i64 0] [(0,3,.agg [.int .i64 p,.int .i64 mo,fa]),(3,1,ca),(4,1,.ptr M 0),(5,1,.ptr R 0)]=some [.int .i64 p,.int .i64 mo,fa,ca,.ptr M 0,.ptr R 0,.nilsl,.int .i64 0,.int .i64 0]:=by
 rw [LW (n:=3) (v:=.agg [.int .i64 p,.int .i64 mo,fa]) rfl (by simp) (by
  show (true&&(true&&(fa.one&&true)))=true
  rw [h1];rfl),Ci h2 (by simp [AW,AV.cells]),Ci rfl (by simp [AW,AV.cells]),Ci rfl (by simp [AW,AV.cells])]
 rfl
theorem bw (a b c:Int) {d:AV} (h:d.one=true):Aq [.int .i64 0,.int .i64 0,.int .i64 0,.nilsl] [(0,1,.int .i64 a),(1,1,.int .i64 b),(2,1,.int .i64 c),(3,1,d)]=some [.int .i64 a,.int .i64 b,.int .i64 c,d]:=by
 rw [Ci rfl (by simp),Ci rfl (by simp [AW]),Ci rfl (by simp [AW]),Ci h (by simp [AW])]
 rfl
def Gr (v tr n:Int) (aa:AV):AV:=.tup [.agg [.int .i64 v,.int .i64 tr,.int .i64 n,aa],.int .i64 0]
section
variable {bar:Nat} {g:H} {own:Nat→Nat} {fa aa:AV} {fs:List Fn} {p mo:Int} {M R:Nat} {m:Mem} {r:Row}
theorem Zr (hv:FV g fa fs) (hfo:At own fa 0) (hm:MemO g bar own M m) (hr:RowO g bar own R r) (hbar:bar≤g.n) (hright:DH p mo fs=0) (hto:∀ f ∈ fs,VV f) (hsig:∀ f ∈ fs,∀ k ∈ (Bx f.code).1,ET k.sign=true) (harg:∀ f ∈ fs,0≤f.args∧f.args≤26) (hl32:fs.length≤32)
  {nm fuel:Int} (hf0:0≤fuel) (hf1:fuel≤1048576) {k:Nat} (hk:BG nm fs 0=k) {f:Fn} (hf:fs[k]? = some f) {args:List Int} (haa:Vw 1 g aa args.length (args.map (AV.int .i64))) (hargs:f.args=args.length) (hra:r.asks.length≤900000)
  {s':Mc} {v:Int} {n':Nat} (hrun:By fs (fs.map codeW) fuel.toNat ⟨[FW (codeW f) args],m,r,0⟩=some (s',v,n')) :
  ∃ xa g' own' ids C,call tb prim CE [.agg [.int .i64 p,.int .i64 mo,fa],.ptr M 0,.ptr R 0,.int .i32 nm,.int .i64 fuel,aa] bar g=some (Gr v s'.trap n' xa,g')∧FzV 2 xa (s'.r.asks.length - r.asks.length) ((s'.r.asks.drop r.asks.length).flatMap asC)∧C.M=M∧C.R=R∧XO g' bar own' C s'.trap v ids∧MemO g' bar own' M s'.m∧RowO g' bar own' R s'.r∧Kp own tA g g'∧Agr g.n own own':=by
 
 obtain ⟨g1,hg1⟩:∃ g1,g1=(g.alloc (.cells [.int .i64 p,.int .i64 mo,fa] 0)).alloc (.cells [.int .i64 0,.int .i64 0,.int .i64 0,.nilsl] 0):=⟨_,rfl⟩
 have n1:g1.n=g.n+2:=by rw [hg1];simp [AB]
 have k1:∀ j,j<g.n→g1.get j=g.get j:=fun j hj=>by rw [hg1,AA,if_neg (by simp [AB];omega),AA,if_neg (by omega)]
 have gU:g1.get g.n=some (.cells [.int .i64 p,.int .i64 mo,fa] 0):=by rw [hg1,AA,if_neg (by simp [AB]),AA,if_pos rfl]
 have gC:g1.get (g.n+1)=some (.cells [.int .i64 0,.int .i64 0,.int .i64 0,.nilsl] 0):=by rw [hg1,AA,if_pos (by simp [AB])]
 have hv1:FV g1 fa fs:=hv.keep (by omega) (fun j hj=>k1 j (hv.at_lt' hj))
 have eR:=Rq (bar:=bar) (p:=p) (m:=mo) hv1
 rw [hright] at eR
 have eF:=Gv (pr:=prim) (bar:=bar) (h:=g1) fs fa nm p mo hv1
 rw [hk] at eF
 have hkl:=(List.getElem?_eq_some_iff.mp hf).1
 have hfk:fs[k]=f:=(List.getElem?_eq_some_iff.mp hf).2
 obtain ⟨own1,hown1⟩:∃ own1,own1=ext own g.n 9:=⟨_,rfl⟩
 have kp1:Kp own (fun _=>False) g g1:=⟨by omega,fun j hj _=>k1 j hj⟩
 have ag1:Agr g.n own own1:=by rw [hown1];exact Agr.ext
 have m1:=hm.mono kp1 ag1 (by simp)
 have r1:=hr.mono kp1 ag1 (by simp)
 have r1':=r1
 obtain ⟨⟨rla,raa,hrv,_,_⟩,_⟩:=r1'
 obtain ⟨xa0,eA,hxa0⟩:=Tv (bar:=bar) hrv
 have hlenA:=hxa0.len
 obtain ⟨ca,rows,eC,hca,hrl,hrows⟩:=PP (bar:=bar) (p:=p) (m:=mo) hv1 hto (by omega)
 
 obtain ⟨C,hC⟩:∃ C:Cx,C=⟨g1.n,p,mo,fa,fs,ca,rows,M,R⟩:=⟨_,rfl⟩
 have hCM:C.M=M:=by rw [hC]
 have hCR:C.R=R:=by rw [hC]
 have hCX:C.X=g1.n:=by rw [hC]
 have hCfs:C.fs=fs:=by rw [hC]
 have hCrows:C.rows=rows:=by rw [hC]
 obtain ⟨g2,hg2⟩:∃ g2,g2=g1.alloc (.cells [.int .i64 p,.int .i64 mo,fa,ca,.ptr M 0,.ptr R 0,.nilsl,.int .i64 0,.int .i64 0] 0):=⟨_,rfl⟩
 have n2:g2.n=g1.n+1:=by rw [hg2];simp [AB]
 obtain ⟨own2,hown2⟩:∃ own2,own2=ext own1 g1.n 1:=⟨_,rfl⟩
 have kp2:Kp own1 (fun _=>False) g1 g2:=by rw [hg2];exact SB
 have ag2:Agr g1.n own1 own2:=by rw [hown2];exact Agr.ext
 have hfo1:At own1 fa 0:=fun j hj=>by rw [ag1 j (hv.at_lt' hj)];exact hfo j hj
 have cx1:CxV g1 own1 C:=by
  rw [hC]
  refine ⟨hv1,hfo1,hca,fun x hx=>?_⟩
  obtain ⟨j,hj⟩:=List.mem_iff_getElem?.mp hx
  obtain ⟨f2,hf2,e2,hcv⟩:=hrows j x hj
  refine ⟨hcv,?_⟩
  rw [e2];exact harg f2 (List.mem_of_getElem? hf2)
 have cx2:CxV g2 own2 C:=cx1.mono kp2 ag2 (by simp)
 have x2:XO g2 bar own2 C 0 0 []:=⟨⟨.nilsl,by rw [hCX,hg2,AA,if_pos rfl,hC];rfl,OW.nil,fun j hj=>hj.elim⟩,by rw [hCX,hown2];simp [ext],by rw [hCX];omega,by rw [hCX];omega,by simp⟩
 have m2:=m1.mono kp2 ag2 (by simp)
 have r2:=r1.mono kp2 ag2 (by simp)
 obtain ⟨x,hx⟩:∃ x,rows[k]? = some x:=⟨rows[k]'(by omega),List.getElem?_eq_getElem (by omega)⟩
 obtain ⟨f2,hf2,ex2,hcv2⟩:=hrows k x hx
 have:f2=f:=by rw [hf] at hf2;cases hf2;rfl
 subst this
 have haa2:Vw 1 g2 aa args.length (args.map (AV.int .i64)):=haa.keep (by omega) (fun j hj=>by have:=haa.at_lt' hj;rw [hg2,AA,if_neg (by omega)];exact k1 j this)
 obtain ⟨g3,own3,e3,x3,f3,k3,a3⟩:=SL (bar:=bar) (args:=args) x2 cx2 (Nat.le_refl _) (by omega) (by rw [hCrows];exact hx) haa2 (by have:=(harg f2 (List.mem_of_getElem? hf)).2;omega) (by simp)
 have cx3:=cx2.mono k3 a3 (by omega)
 have m3:=m2.mono k3 a3 (by omega)
 have r3:=r2.mono k3 a3 (by omega)
 have hsmall:EU [FW x.2.2 args]=0:=rfl
 have xv3:XV g3 bar own3 C ⟨[FW (codeW f2) args],m,r,0⟩ 0 [g2.n]:=⟨x3,cx3,⟨by rw [← ex2];exact f3,trivial⟩,by rw [hCM];exact m3,by rw [hCR];exact r3,by have:=k3.1;omega⟩
 have hmap:C.rows.map (·.2.2)=fs.map codeW:=by
  rw [hCrows]
  apply List.ext_getElem?
  intro j
  rw [List.getElem?_map,List.getElem?_map]
  cases hj:rows[j]? with
  | none =>
   have:fs[j]? = none:=by rw [List.getElem?_eq_none_iff] at hj ⊢;omega
   rw [this];rfl
  | some y =>
   obtain ⟨f4,h4,h5,_⟩:=hrows j y hj
   rw [h4];simp [h5]
 obtain ⟨lp,hlp⟩:=TE _ hrun
 simp only at hlp
 have hws:(fuel.toNat:Int)=fuel:=Int.toNat_of_nonneg hf0
 
 obtain ⟨y,g9,hcall,xa,own',ids,rfl,q1,q2,q3,q4,q5,q6⟩:=Ap (o:=call tb prim) (F:=f_engine_Run) (bar:=bar) (h:=g) (args:=[.agg [.int .i64 p,.int .i64 mo,fa],.ptr M 0,.ptr R 0,.int .i32 nm,.int .i64 fuel,aa])
  (P:=fun y g'=>∃ xa own' ids,y=Gr v s'.trap n' xa∧FzV 2 xa (s'.r.asks.length - r.asks.length) ((s'.r.asks.drop r.asks.length).flatMap asC)∧XO g' bar own' C s'.trap v ids∧MemO g' bar own' M s'.m∧RowO g' bar own' R s'.r∧Kp own tA g g'∧Agr g.n own own') rfl rfl (fun K hK=>by
  have d0:decide (fuel<0)=false:=by simpa using hf0
  have d1:decide (1048576<fuel)=false:=by simpa using hf1
  have dk:decide ((k:Int)<0)=false:=by simp
  have da:((args.length:Int) != f2.args)=false:=by rw [hargs];simp
  have hla:=haa.len
  simp [f_engine_Run,AZ,go_sem,AA,AB,AC,AF,AD,AH,AE,AQ,a21,AR,AS,a51,AT,AU,AM,CD,hv.one,d0,d1]
  rw [← hg1]
  simp [go_sem,AA,AB,AC,AF,AD,AH,AE,AQ,a21,AR,AS,a51,AT,AU,AM,gU,eR,eF,dk,hla,BE]
  refine bp hv1 hkl fun u w=>?_
  rw [hfk]
  simp [go_sem,AA,AB,AC,AF,AD,AH,AE,AQ,a21,AR,AS,a51,AT,AU,AM,gU,da,eA,hlenA,BE,eC]
  have hfX:=cB p mo hv.one hca.one M R
  have hoX:([.int .i64 p,.int .i64 mo,fa,ca,.ptr M 0,.ptr R 0,.nilsl,.int .i64 0,.int .i64 0]:List AV).all AV.one=true:=by
   show (true&&(true&&(fa.one&&(ca.one&&(true&&(true&&(true&&(true&&(true&&true)))))))))=true
   rw [hv.one,hca.one];rfl
  rw [hCX] at e3
  simp [go_sem,AA,AB,AC,AF,AD,AH,AE,AQ,a21,AR,AS,a51,AT,AU,AM,Af,hfX,AV.cells,hoX]
  rw [← hg2]
  simp [go_sem,AA,AB,AC,AF,AD,AH,AE,AQ,a21,AR,AS,a51,AT,AU,AM,e3]
  have hcs:∀ x ∈ C.rows,∀ k ∈ x.2.2.l,ET k.sign=true:=fun y hy k2 hk2=>by
   rw [hCrows] at hy
   obtain ⟨j,hj⟩:=List.mem_iff_getElem?.mp hy
   obtain ⟨f4,h4,h5,_⟩:=hrows j y hj
   rw [h5] at hk2
   exact hsig f4 (List.mem_of_getElem? h4) k2 hk2
  have hl:=fun Q hq=>Xn (bar:=bar) (b:=bar) (C:=C) (Nat.le_refl _) r.asks.length (g.n+1) hcs Q fuel.toNat g3 own3 ⟨[FW (codeW f2) args],m,r,0⟩ [g2.n] (s':=s') (v:=v) (n':=n') xv3 (fun y hy k2 hk2=>by
   rw [List.mem_singleton] at hy;subst hy;exact hsig f2 (List.mem_of_getElem? hf) k2 hk2) (by show 0+0+fuel.toNat<_;omega) (by show r.asks.length+fuel.toNat<_;omega) (by simp) (by omega) (by rw [hCfs,hmap];exact hrun) hq
  simp only [hCR,hCX,hws] at hl
  refine hl _ (fun e g4 own4 hR k4 a4 ge2 ge4 ge12 ge16 ge17=>?_)
  obtain ⟨⟨ids,x4⟩,m4,r4,b4⟩:=hR
  rw [hCM] at m4
  rw [hCR] at r4
  have r4':=r4
  obtain ⟨⟨rla4,raa4,hrv4,_,_⟩,_⟩:=r4'
  obtain ⟨xa4,eA4,hxa4⟩:=Tv (bar:=bar) hrv4
  have hle4:r.asks.length≤s'.r.asks.length:=by rw [hlp];simp
  obtain ⟨xa5,eD,hxa5⟩:=hxa4.drop hle4
  rw [IQ (c:=asC) (k:=2) (fun _=>rfl)] at hxa5
  have x4':=x4
  obtain ⟨⟨fra,gx4,_,_⟩,_,_,_,_⟩:=x4'
  rw [hCX] at gx4
  obtain ⟨xc,hxc⟩:∃ xc,xc=xC C fra s'.trap v:=⟨_,rfl⟩
  have hx7:xc[7]? = some (.int .i64 s'.trap):=by rw [hxc];rfl
  have hx8:xc[8]? = some (.int .i64 v):=by rw [hxc];rfl
  rw [← hxc] at gx4
  have oC1:own1 (g.n+1)=9:=by rw [hown1];simp only [ext];rw [if_neg (by omega)]
  have oC2:own2 (g.n+1)=9:=by rw [ag2 _ (by omega)];exact oC1
  have oC3:own3 (g.n+1)=9:=by rw [a3 _ (by omega)];exact oC2
  have oC4:own4 (g.n+1)=9:=by rw [a4 _ (by have:=k3.1;omega)];exact oC3
  have gC2:g2.get (g.n+1)=some (.cells [.int .i64 0,.int .i64 0,.int .i64 0,.nilsl] 0):=by rw [kp2.2 _ (by omega) (by simp)];exact gC
  have gC3:g3.get (g.n+1)=some (.cells [.int .i64 0,.int .i64 0,.int .i64 0,.nilsl] 0):=by rw [k3.2 _ (by omega) (by rw [oC2];omega)];exact gC2
  have gC4:g4.get (g.n+1)=some (.cells [.int .i64 0,.int .i64 0,.int .i64 0,.nilsl] 0):=by rw [k4.2 _ (by have:=k3.1;omega) (by rw [oC3];unfold tA;omega)];exact gC3
  have hf4:=bw v s'.trap n' hxa5.one
  have hall:([.int .i64 v,.int .i64 s'.trap,.int .i64 n',xa5]:List AV).all AV.one=true:=by
   show (true&&(true&&(true&&(xa5.one&&true))))=true
   rw [hxa5.one];rfl
  have hsta:([.int .i64 v,.int .i64 s'.trap,.int .i64 n',xa5]:List AV).all AV.stay=true:=by
   show (true&&(true&&(true&&(xa5.stay&&true))))=true
   rw [hxa5.stay];rfl
  have hfre:([.int .i64 v,.int .i64 s'.trap,.int .i64 n',xa5]:List AV).all AV.free=true:=by
   show (true&&(true&&(true&&(xa5.free&&true))))=true
   rw [hxa5.free];rfl
  have hbC:bar≤g.n+1:=by omega
  obtain ⟨g5,hg5⟩:∃ g5,g5=g4.set (g.n+1) (.cells [.int .i64 v,.int .i64 s'.trap,.int .i64 n',xa5] 0):=⟨_,rfl⟩
  have k5:Kp own4 (fun k=>k=9) g4 g5:=⟨by rw [hg5,AF];exact Nat.le_refl _,fun j hj hs=>by rw [hg5,AO (fun q=>hs (by rw [q];exact oC4))]⟩
  have hfz:=fun d h=>Hk (bar:=bar) (d:=d) (h:=h) hsta
  have gC5:g5.get (g.n+1)=some (.cells [.int .i64 v,.int .i64 s'.trap,.int .i64 n',xa5] 0):=by rw [hg5,AC,if_pos rfl]
  have hw0:(([.int .i64 0,.int .i64 0,.int .i64 0,.nilsl]:List AV)).length=4:=rfl
  simp [go_sem,AA,AB,AC,AF,AD,AH,AE,AQ,a21,AR,AS,a51,AT,AU,AM,ge2,ge4,ge12,ge16,ge17,gx4,hx7,hx8,eA4,BB,eD,Af,hf4,gC4,hbC,AV.cells,hall,Hs]
  rw [← hg5]
  simp [go_sem,AY,AX,AG,AK,AJ,AI,AV.free.freeL,AV.free,AL,AN,gC5,AI,AJ,hfz]
  have kk4:Kp own tA g g4:=(kp1.le fun k h=>h.elim).trans ag1 ((kp2.le fun k h=>h.elim).trans ag2 ((k3.le fun k h=>by unfold tA;have h':k=1∨k=2:=h;omega).trans a3 k4))
  have kk:Kp own tA g g5:=⟨by rw [hg5,AF];exact kk4.1,fun j hj hs=>by rw [hg5,AO (by omega)];exact kk4.2 j hj hs⟩
  have aa5:Agr g.n own own4:=Agr.trans ag1 (Agr.trans ag2 (Agr.trans a3 a4 k3.1) (by omega)) (by omega)
  exact ⟨_,_,⟨rfl,rfl⟩,hK _ _ ⟨xa5,own4,ids,rfl,hxa5,x4.mono k5 Agr.refl (by omega),m4.mono k5 Agr.refl (by omega),r4.mono k5 Agr.refl (by omega),kk,aa5⟩⟩)
 exact ⟨xa,_,own',ids,C,Aa MQ hcall,q1,hCM,hCR,q2,q3,q4,q5,q6⟩
end
end Go.Ev
set_option linter.unusedSectionVars false
namespace Go.Ev
open Go
theorem YV {o:Oracle} {bar:Nat} {g:H} {v:AV} {n:Nat} {cs:List AV} (hv:Vw 1 g v n cs) {i:Nat} (hi:i<n) {y:AV} (hy:cs[i]? = some y) {cc d:Nat} {r:List IOper} {ks:List Fr} {e:Env} {Q:Ex→Env→H→Prop}
  (hw:∀ u,Hc o bar r ks ((d,y)::(cc,u)::e) g Q):MS o bar (IK 1 (some v) (some (.int .i64 (i:Nat))) g) (some cc) (⟨some d,.ld false 1 (.t cc),none⟩::r) ks e Q:=by
 have hbi:(i:Int)<(n:Int):=by omega
 obtain ⟨hl,_,⟨rfl,h2⟩ | ⟨full,rfl⟩ | ⟨id,off,full,all,q,rfl,hid,hg,hle2,hc⟩⟩:=hv
 ·omega
 ·have hl2:(cs.length=n)=True:=by simpa using hl
  simp [go_sem,AP,hi,hbi,hl2,hy]
  exact hw _
 ·have hrow2:all[off+i]? = some y:=by
   rw [← hy,← hc,List.getElem?_take,if_pos (by omega),List.getElem?_drop]
  simp [go_sem,AP,hi,hbi,hg,hrow2]
  exact hw _
theorem Vw.first {k:Nat} {h:H} {a:AV} {n:Nat} {cs:List AV} (v:Vw k h a n cs) {m:Nat} (hm:m≤n):∃ a',BN k a none (some (.int .i64 (m:Nat))) none=some a'∧Vw k h a' m (cs.take (m*k))∧(∀ j,a'.isAt j→a.isAt j):=by
 have e1:∀ x,Ae x (some (AV.int .i64 (m:Nat)))=some m:=fun x=>by simp [Ae,BR]
 have e2:∀ n,Ae n none=some n:=fun _=>rfl
 have hmk:m*k≤n*k:=Nat.mul_le_mul_right k hm
 obtain ⟨hl,hn,⟨rfl,e⟩ | ⟨full,rfl⟩ | ⟨id,off,full,all,q,rfl,hid,hgi,hle,hc⟩⟩:=v
 ·have hm0:m=0:=by omega
  subst hm0
  exact ⟨.nilsl,by simp [BN,Ae,BR],⟨by simp,by omega,.inl ⟨rfl,rfl⟩⟩,fun j hj=>hj⟩
 ·refine ⟨.fz k (m - 0) ((cs.drop (0*k)).take ((m - 0)*k)) (full&&decide (m=n)),?_,?_,fun j hj=>hj⟩
  ·simp only [BN,e1,e2]
   rw [if_pos ⟨trivial,hl,by omega,hm⟩]
  ·simp only [Nat.zero_mul,List.drop_zero,Nat.sub_zero]
   exact ⟨by rw [List.length_take,hl];omega,by omega,.inr (.inl ⟨_,rfl⟩)⟩
 ·refine ⟨.sl id (off+0*k) k (m - 0) (full&&decide (m=n)),?_,?_,fun j hj=>hj⟩
  ·simp only [BN,e1,e2]
   rw [if_pos ⟨trivial,by omega,hm⟩]
  ·simp only [Nat.zero_mul,Nat.add_zero,Nat.sub_zero]
   refine ⟨by rw [List.length_take,hl];omega,by omega,.inr (.inr ⟨id,off,_,all,q,rfl,hid,hgi,by omega,?_⟩)⟩
   rw [← hc,List.take_take,Nat.min_eq_left hmk]
end Go.Ev
set_option linter.unusedSectionVars false
namespace Go.Ev
open Go
structure TextOk (code:ByteArray) (c:Code'):Prop where
 tok:Bx code=(c.l,0)
 nest:Bc c.l=some c.to
 args:c.args=2
 right:DH 1 8 [⟨102,2,code⟩]=0
 to:c.to.all (fun x=>decide (x≤2000))=true
 sig:c.l.all (fun k=>ET k.sign)=true
theorem TextOk.code {code:ByteArray} {c:Code'} (h:TextOk code c):codeW ⟨102,2,code⟩=c:=by
 unfold codeW
 simp only [h.tok,h.nest,Option.getD_some]
 rw [← h.args]
theorem cA (p m:Int) {a:AV} (h:a.one=true):Aq [.int .i64 0,.int .i64 0,.nilsl] [(0,1,.int .i64 p),(1,1,.int .i64 m),(2,1,a)]=some [.int .i64 p,.int .i64 m,a]:=by
 rw [Ci rfl (by simp),Ci rfl (by simp [AW]),Ci h (by simp [AW])];rfl
section
variable {bar:Nat} {g:H}
open Classical in
end
end Go.Ev
set_option linter.unusedSectionVars false
namespace Go.Ev
open Go
open Classical in
noncomputable def IA (fa:AV) (M R:Nat) (ba da la aa:AV):Nat→Nat:=fun j=>if fa.isAt j then 0 else if j=M then 3 else if j=R then 6 else if ba.isAt j then 4 else if da.isAt j then 5 else if la.isAt j then 7 else if aa.isAt j then 8 else 9
section
variable {bar:Nat} {g:H}
structure UnitOk (p mo:Int) (fs:List Fn) (cs:List Code'):Prop where
 right:DH p mo fs=0
 to:∀ f ∈ fs,VV f
 sig:∀ f ∈ fs,∀ k ∈ (Bx f.code).1,ET k.sign=true
 arg:∀ f ∈ fs,0≤f.args∧f.args≤26
 len:fs.length≤32
 codes:fs.map codeW=cs
theorem WZ {fa aa:AV} {fs:List Fn} {cs:List Code'} {p mo:Int} {M R:Nat} {m:Mem} {r:Row} {ba da la ra:AV} (hu:UnitOk p mo fs cs) (hv:FV g fa fs) (hM:MemV g bar M m ba da) (hR:RowV g bar R r la ra) (hbar:bar≤g.n)
  (dMR:M≠R) (dbR:¬ ba.isAt R) (ddR:¬ da.isAt R) (dl:∀ j,la.isAt j→j≠M∧¬ ba.isAt j∧¬ da.isAt j) (dr:∀ j,ra.isAt j→j≠M∧¬ ba.isAt j∧¬ da.isAt j) (df:∀ j,fa.isAt j→j≠M∧j≠R∧¬ ba.isAt j∧¬ da.isAt j∧¬ la.isAt j∧¬ ra.isAt j)
  {nm fuel:Int} (hf0:0≤fuel) (hf1:fuel≤1048576) {k:Nat} (hk:BG nm fs 0=k) {f:Fn} (hf:fs[k]? = some f) {args:List Int} (haa:Vw 1 g aa args.length (args.map (AV.int .i64))) (hargs:f.args=args.length) (hra:r.asks.length≤900000)
  {s':Mc} {v:Int} {n':Nat} (hrun:By fs cs fuel.toNat ⟨[FW (codeW f) args],m,r,0⟩=some (s',v,n')) :
  ∃ xa g' own' ids C,call tb prim CE [.agg [.int .i64 p,.int .i64 mo,fa],.ptr M 0,.ptr R 0,.int .i32 nm,.int .i64 fuel,aa] bar g=some (Gr v s'.trap n' xa,g')∧FzV 2 xa (s'.r.asks.length - r.asks.length) ((s'.r.asks.drop r.asks.length).flatMap asC)∧C.M=M∧C.R=R∧XO g' bar own' C s'.trap v ids∧MemO g' bar own' M s'.m∧RowO g' bar own' R s'.r∧Kp (IA fa M R ba da la ra) tA g g'∧Agr g.n (IA fa M R ba da la ra) own':=by
 have hfM:¬ fa.isAt M:=fun q=>(df M q).1 rfl
 have hfR:¬ fa.isAt R:=fun q=>(df R q).2.1 rfl
 have hMO:MemO g bar (IA fa M R ba da la ra) M m:=by
  refine ⟨⟨ba,da,hM,fun j hj=>?_,fun j hj=>?_⟩,by simp [IA,hfM]⟩
  ·have h1:j≠M:=fun q=>hM.nb (q ▸ hj)
   have h2:j≠R:=fun q=>dbR (q ▸ hj)
   have h3:¬ fa.isAt j:=fun q=>(df j q).2.2.1 hj
   simp [IA,h1,h2,h3,hj]
  ·have h1:j≠M:=fun q=>hM.nd (q ▸ hj)
   have h2:j≠R:=fun q=>ddR (q ▸ hj)
   have h3:¬ fa.isAt j:=fun q=>(df j q).2.2.2.1 hj
   have h4:¬ ba.isAt j:=fun q=>hM.ap j q hj
   simp [IA,h1,h2,h3,h4,hj]
 have hRO:RowO g bar (IA fa M R ba da la ra) R r:=by
  refine ⟨⟨la,ra,hR,fun j hj=>?_,fun j hj=>?_⟩,?_⟩
  ·obtain ⟨h1,h4,h5⟩:=dl j hj
   have h2:j≠R:=fun q=>hR.nl (q ▸ hj)
   have h3:¬ fa.isAt j:=fun q=>(df j q).2.2.2.2.1 hj
   simp [IA,h1,h2,h3,h4,h5,hj]
  ·obtain ⟨h1,h4,h5⟩:=dr j hj
   have h2:j≠R:=fun q=>hR.na (q ▸ hj)
   have h3:¬ fa.isAt j:=fun q=>(df j q).2.2.2.2.2 hj
   have h6:¬ la.isAt j:=fun q=>hR.ap j q hj
   simp [IA,h1,h2,h3,h4,h5,h6,hj]
  ·have h1:R≠M:=fun q=>dMR q.symm
   simp [IA,hfR,h1]
 exact Zr hv (fun j hj=>by simp [IA,hj]) hMO hRO hbar hu.right hu.to hu.sig hu.arg hu.len hf0 hf1 hk hf haa hargs hra (by rw [hu.codes];exact hrun)
theorem ZV {fa:AV} {fs:List Fn} {cs:List Code'} {p mo:Int} (hu:UnitOk p mo fs cs) (hv:FV g fa fs) (hbar:bar≤g.n) {pages:Nat} {most:Int} (hp:(pages:Int)≤most) (hmo:most≤64)
  {nm fuel:Int} (hf0:0≤fuel) (hf1:fuel≤1048576) {k:Nat} (hk:BG nm fs 0=k) {f:Fn} (hf:fs[k]? = some f) {args:List Int} (hargs:f.args=args.length) (hla:args.length≤26)
  {s':Mc} {v:Int} {n':Nat} (hrun:By fs cs fuel.toNat ⟨[FW (codeW f) args],Fk pages most,⟨[],[]⟩,0⟩=some (s',v,n')) :
  ∃ g2 M g3 g5 xa,call tb prim DI [.int .i64 pages,.int .i64 most] bar g=some (.ptr M 0,g2)∧call tb prim Cs [.nilsl] bar g2=some (.ptr g2.n 0,g3)∧g3.n=g2.n+1∧g.n≤g2.n∧(∀ j,j<g.n→g2.get j=g.get j)∧(∀ j,j<g2.n→g3.get j=g2.get j) ∧
   call tb prim CE [.agg [.int .i64 p,.int .i64 mo,fa],.ptr M 0,.ptr g2.n 0,.int .i32 nm,.int .i64 fuel,.sl g3.n 0 1 args.length true] bar (g3.alloc (.cells (args.map (AV.int .i64)) 0))=some (Gr v s'.trap n' xa,g5)∧FzV 2 xa s'.r.asks.length (s'.r.asks.flatMap asC)∧g.n≤g5.n∧(∀ j,j<g.n→(fa.isAt j∨True)→g5.get j=g.get j):=by
 obtain ⟨g2,M,ba,da,e2,hM,n2,k2⟩:=WN (bar:=bar) (g:=g) pages most hp hmo hbar
 obtain ⟨g3,e3,hR,n3,k3⟩:=KV (bar:=bar) (g:=g2) (by omega)
 obtain ⟨g4,hg4⟩:∃ g4,g4=g3.alloc (.cells (args.map (AV.int .i64)) 0):=⟨_,rfl⟩
 have n4:g4.n=g3.n+1:=by rw [hg4,AB]
 have k4:∀ j,j<g3.n→g4.get j=g3.get j:=fun j hj=>by rw [hg4,AA,if_neg (by omega)]
 have hMl:=hM.lt
 have hMb:=hM.bM
 have hM4:MemV g4 bar M (Fk pages most) ba da:=by
  have h1:MemV g4 g.n M (Fk pages most) ba da:=hM.mono (by omega) (by rw [k4 _ (by omega),k3 _ hMl]) (fun j hj=>by have:=(hM.ob.at_lt hj).2;rw [k4 _ (by omega),k3 _ this]) (fun j hj=>by have:=(hM.od.at_lt hj).2;rw [k4 _ (by omega),k3 _ this])
  exact ⟨h1.get,by omega,h1.lt,h1.ob.bar_le hbar,h1.od.bar_le hbar,h1.nb,h1.nd,h1.ap,h1.sz,h1.m0,h1.m1,h1.rng⟩
 have hR4:RowV g4 bar g2.n ⟨[],[]⟩ .nilsl .nilsl:=⟨by rw [k4 _ (by omega)];exact hR.get,by omega,by omega,⟨rfl,by simp,.inl ⟨rfl,rfl⟩⟩,OW.nil,fun q=>q,fun q=>q,fun j q=>q.elim,by simp⟩
 have hva:Vw 1 g4 (.sl g3.n 0 1 args.length true) args.length (args.map (AV.int .i64)):=⟨by simp,by omega,.inr (.inr ⟨g3.n,0,true,args.map (AV.int .i64),0,rfl,by omega,by rw [hg4,AA,if_pos rfl],by simp,by rw [List.drop_zero,List.take_of_length_le (by simp)]⟩)⟩
 have hv4:FV g4 fa fs:=hv.keep (by omega) (fun j hj=>by have:=hv.at_lt' hj;rw [k4 _ (by omega),k3 _ (by omega),k2 _ this])
 obtain ⟨xa,g5,own',ids,C,e5,hxa,_,_,_,_,_,k5,_⟩:=WZ (bar:=bar) hu hv4 hM4 hR4 (by omega) (by omega) (fun q=>by have:=(hM.ob.at_lt q).2;omega) (fun q=>by have:=(hM.od.at_lt q).2;omega) (fun j hj=>hj.elim) (fun j hj=>hj.elim)
  (fun j hj=>by have:=hv.at_lt' hj;exact ⟨by omega,by omega,fun q=>by have:=(hM.ob.at_lt q).1;omega,fun q=>by have:=(hM.od.at_lt q).1;omega,fun q=>q,fun q=>q⟩) hf0 hf1 hk hf hva hargs (by simp) hrun
 refine ⟨g2,M,g3,g5,xa,e2,e3,n3,n2,k2,k3,by rw [← hg4];exact e5,by simpa using hxa,by have:=k5.1;omega,fun j hj _=>?_⟩
 rw [k5.2 j (by omega) ?_,k4 _ (by omega),k3 _ (by omega),k2 _ hj]
 have h1:j≠M:=by omega
 have h2:j≠g2.n:=by omega
 have h3:¬ ba.isAt j:=fun q=>by have:=(hM.ob.at_lt q).1;omega
 have h4:¬ da.isAt j:=fun q=>by have:=(hM.od.at_lt q).1;omega
 have h5:¬ (AV.nilsl).isAt j:=fun q=>q
 simp only [IA,h1,h2,h3,h4,h5,if_false]
 unfold tA
 split<;>omega
end
end Go.Ev
set_option linter.unusedSectionVars false
namespace Go.Ev
open Go
end Go.Ev
set_option linter.unusedSectionVars false
namespace Go.Ev
open Go
theorem RG {v N:Int} (hv:v≤N):∀ (l:List Nat) (to:List Int),(∀ x ∈ to,x≤N)→∀ x ∈ Ec v l to,x≤N
 | [],to,h,x,hx=>h x hx
 | k::r,to,h,x,hx=>RG hv r _ (fun y hy=>by
  rcases List.mem_or_eq_of_mem_set hy with q | rfl
  ·exact h y q
  ·exact hv) x hx
theorem Xh {sg:Int} {i:Nat} {s s':Mt} {N:Int} (h:Be sg i s=some s') (hi:(i:Int)+1≤N) (hf:∀ p ∈ s.op,p.fr<i) (hl:∀ x ∈ s.to,x≤N):∀ x ∈ s'.to,x≤N:=by
 have hset:∀ (j:Nat) (v:Int),v≤N→∀ x ∈ s.to.set j v,x≤N:=fun j v hv x hx=>by
  rcases List.mem_or_eq_of_mem_set hx with q | rfl
  ·exact hl x q
  ·exact hv
 unfold Be at h
 split at h
 ·split at h
  ·cases h;exact hl
  ·cases h
 split at h
 ·split at h
  ·cases h;exact hl
  ·cases h
 split at h
 ·split at h
  ·cases h
  ·split at h
   ·cases h
   ·cases h;exact hset _ _ (by omega)
 split at h
 ·split at h
  ·cases h
  ·split at h
   ·cases h
   ·cases h;exact hset _ _ (by omega)
 split at h
 ·split at h
  ·cases h
  ·rename_i p hp
   split at h
   ·cases h
    have:=hf p (List.mem_of_getLast? hp)
    exact RG (by omega) _ _ (hset _ _ (by omega))
   ·cases h
 split at h
 ·split at h
  ·cases h
  ·split at h
   ·cases h;exact hl
   ·cases h
 ·cases h;exact hl
theorem Seqs.to_le {fs:List Fn} {l:List Tok} {P:Nat→Mt} {J:Nat→Js} (S:Seqs fs l P J):∀ i,i≤l.length→∀ x ∈ (P i).to,x≤l.length
 | 0,_,x,hx=>by
  rw [S.p0] at hx
  simp only [List.mem_replicate] at hx
  omega
 | i+1,h,x,hx=>Xh (S.ps i (by omega)) (by omega) (S.rel i (by omega)).fr (S.to_le i (by omega)) x hx
theorem Wl {fs:List Fn} {s nm:Int} (h:(Au fs s nm).2.2=true):ET s=true:=by
 by_cases c1:s=48∨97≤s∧s≤122∨s=35
 ·simp [ET,HO];omega
 by_cases c2:65≤s∧s≤90∨s=44
 ·simp [ET,HO];omega
 by_cases c3:s=46
 ·simp [ET,HO];omega
 by_cases c4:FN s=true
 ·simp [FN] at c4;simp [ET,HO];omega
 by_cases c5:Fv s=true
 ·simp [Fv] at c5;simp [ET,HO];omega
 by_cases c6:s=36∨s=174
 ·simp [ET,HO];omega
 by_cases c7:s=63
 ·simp [ET,HO];omega
 by_cases c8:GA s=true
 ·simp [GA] at c8;simp [ET,HO];omega
 by_cases c9:s=955
 ·simp [ET,HO];omega
 ·rw [T0 c1 c2 c3 (by simpa using c4) (by simpa using c5) c6 c7 (by simpa using c8) c9] at h
  cases h
theorem UnitOk.of_right {p mo:Int} {fs:List Fn} (h:DH p mo fs=0):UnitOk p mo fs (fs.map codeW):=by
 obtain ⟨hP,_,_,_⟩:=TD h
 refine ⟨h,fun f hf=>?_,fun f hf k hk=>?_,fun f hf=>?_,hP.len,rfl⟩
 ·obtain ⟨J,⟨P,hS,hto⟩,_,_⟩:=hP.code f hf
  have hn:∃ to,Bc (Bx f.code).1=some to:=by
   obtain ⟨i,hi⟩:=List.mem_iff_getElem?.mp hf
   cases hc:Bc (Bx f.code).1 with
   | some to=>exact ⟨to,rfl⟩
   | none =>
    exfalso
    have:Bv (Bx f.code).1 (Bx f.code).1.length 0 ⟨List.replicate (Bx f.code).1.length (-1),[],0⟩=some (P (Bx f.code).1.length):=by
     have hall:∀ i,i≤(Bx f.code).1.length→Bv (Bx f.code).1 i 0 ⟨List.replicate (Bx f.code).1.length (-1),[],0⟩=some (P i):=by
      intro i
      induction i with
      | zero=>intro _;rw [show P 0=_ from hS.p0];rfl
      | succ i ih =>
       intro hi
       rw [KB,ih (by omega)]
       simp only [Option.bind_some,Nat.zero_add,Bv]
       rw [show Be (Al (Bx f.code).1 i) i (P i)=some (P (i+1)) from hS.ps i (by show i<(Bx f.code).1.length;omega)]
       rfl
     exact hall _ (Nat.le_refl _)
    unfold Bc at hc
    rw [this] at hc
    simp only at hc
    rw [if_pos (show (P (Bx f.code).1.length).op=[] from hS.pe)] at hc
    cases hc
  obtain ⟨to,hto2⟩:=hn
  refine ⟨to,hto2,fun x hx=>?_⟩
  have e:(P (codeW f).l.length).to=to:=by rw [hto];show (Bc (Bx f.code).1).getD []=to;rw [hto2];rfl
  rw [← e] at hx
  have h1:=hS.to_le _ (Nat.le_refl _) x hx
  have h2:(Bx f.code).1.length≤1300:=by
   obtain ⟨_,_,_,q⟩:=Hl (bar:=0) (h:=⟨0,fun _=>none⟩) f.code
   exact q
  have h3:((codeW f).l.length:Int)=((Bx f.code).1.length:Nat):=rfl
  omega
 ·obtain ⟨J,⟨P,hS,hto⟩,_,_⟩:=hP.code f hf
  obtain ⟨i,hi⟩:=List.mem_iff_getElem?.mp hk
  obtain ⟨hil,_⟩:=List.getElem?_eq_some_iff.mp hi
  obtain ⟨t,_,ht,_,hok,_⟩:=hS.eff (i:=i) hil
  have ht':(Bx f.code).1[i]? = some t:=ht
  rw [hi] at ht'
  injection ht' with ht'
  subst ht'
  exact Wl hok
 ·obtain ⟨_,_,a0,a4⟩:=hP.code f hf
  have a0':0≤f.args:=a0
  have a4':f.args≤4:=a4
  exact ⟨a0',by omega⟩
def Xj (why:Int):AV:=.tup [.agg [.int .i64 0,.int .i64 0,.int .i64 0,.nilsl],.int .i64 why]
section
variable {bar:Nat} {g:H} {fa aa:AV} {fs:List Fn} {p mo:Int}
theorem Xo {Mv Rv:AV} {nm fuel:Int} (hone:fa.one=true) (hbar:bar≤g.n) (h:Mv=.nilptr∨(∃ M R,Mv=.ptr M 0∧Rv=.ptr R 0∧(fuel<0∨1048576<fuel))) :
  ∃ g',call tb prim CE [.agg [.int .i64 p,.int .i64 mo,fa],Mv,Rv,.int .i32 nm,.int .i64 fuel,aa] bar g=some (Xj 1,g')∧g.n≤g'.n∧∀ j,j<g.n→g'.get j=g.get j:=by
 obtain ⟨g1,hg1⟩:∃ g1,g1=((g.alloc (.cells [.int .i64 p,.int .i64 mo,fa] 0)).alloc (.cells [.int .i64 0,.int .i64 0,.int .i64 0,.nilsl] 0)).set (g.n+1) (.cells [.int .i64 0,.int .i64 0,.int .i64 0,.nilsl] 0):=⟨_,rfl⟩
 have n1:g1.n=g.n+2:=by rw [hg1,AF];simp [AB]
 have k1:∀ j,j<g.n→g1.get j=g.get j:=fun j hj=>by rw [hg1,AO (by omega),AA,if_neg (by simp [AB];omega),AA,if_neg (by omega)]
 have gC:g1.get (g.n+1)=some (.cells [.int .i64 0,.int .i64 0,.int .i64 0,.nilsl] 0):=by rw [hg1,AC,if_pos rfl]
 obtain ⟨y,g9,hcall,rfl,h9⟩:=Ap (o:=call tb prim) (F:=f_engine_Run) (bar:=bar) (h:=g) (args:=[.agg [.int .i64 p,.int .i64 mo,fa],Mv,Rv,.int .i32 nm,.int .i64 fuel,aa])
  (P:=fun y g'=>y=Xj 1∧g'=g1) rfl rfl (fun K hK=>by
  have hb1:bar≤g.n+1:=by omega
  rcases h with rfl | ⟨M,R,rfl,rfl,h⟩
  ·simp [f_engine_Run,AZ,go_sem,AA,AB,AC,AF,AD,AH,AE,AQ,a21,AR,AS,a51,AT,AU,AM,CD,hone,Af,Aq,AV.cells,Hs,hb1]
   rw [← hg1]
   simp [go_sem,AY,AX,AG,AK,AJ,AI,AV.free.freeL,AV.free,AL,AN,gC]
   exact ⟨_,_,⟨rfl,rfl⟩,hK _ _ ⟨rfl,rfl⟩⟩
  ·by_cases c:fuel<0
   ·simp [f_engine_Run,AZ,go_sem,AA,AB,AC,AF,AD,AH,AE,AQ,a21,AR,AS,a51,AT,AU,AM,CD,hone,Af,Aq,AV.cells,Hs,hb1,c]
    rw [← hg1]
    simp [go_sem,AY,AX,AG,AK,AJ,AI,AV.free.freeL,AV.free,AL,AN,gC]
    exact ⟨_,_,⟨rfl,rfl⟩,hK _ _ ⟨rfl,rfl⟩⟩
   ·have c2:1048576<fuel:=by omega
    simp [f_engine_Run,AZ,go_sem,AA,AB,AC,AF,AD,AH,AE,AQ,a21,AR,AS,a51,AT,AU,AM,CD,hone,Af,Aq,AV.cells,Hs,hb1,c,c2]
    rw [← hg1]
    simp [go_sem,AY,AX,AG,AK,AJ,AI,AV.free.freeL,AV.free,AL,AN,gC]
    exact ⟨_,_,⟨rfl,rfl⟩,hK _ _ ⟨rfl,rfl⟩⟩)
 exact ⟨g9,Aa MQ hcall,by rw [h9];omega,fun j hj=>by rw [h9];exact k1 j hj⟩
end
end Go.Ev
namespace Go.Ev
open Go
end Go.Ev
namespace Go.Ev
open Go
end Go.Ev
namespace Go.Ev
open Go
end Go.Ev
namespace Go.Ev
open Go
end Go.Ev
namespace Go.Ev
open Go
end Go.Ev
namespace Go.Ev
open Go
end Go.Ev
namespace Go.Ev
open Go
end Go.Ev
namespace Go.Ev
open Go
end Go.Ev
namespace Go.Ev
open Go
theorem RE {A:Type} {c:A→List AV} {k:Nat} (hk:∀ x,(c x).length=k):∀ (len:Nat) (cs:List AV),cs.length=len*k→(∀ i,i<len→∃ x,(cs.drop (i*k)).take k=c x)→∃ l:List A,l.length=len∧cs=l.flatMap c
 | 0,cs,h,_=>⟨[],rfl,List.length_eq_zero_iff.mp (by simpa using h)⟩
 | len+1,cs,h,hx=>by
  obtain ⟨x,h0⟩:=hx 0 (by omega)
  obtain ⟨l,hl,hc⟩:=RE hk len (cs.drop k) (by rw [List.length_drop,h,Nat.succ_mul];omega) (fun i hi=>by
   obtain ⟨y,hy⟩:=hx (i+1) (by omega)
   exact ⟨y,by rw [List.drop_drop,← hy,Nat.succ_mul,Nat.add_comm]⟩)
  refine ⟨x::l,by simp [hl],?_⟩
  rw [List.flatMap_cons,← hc,← h0]
  simp
theorem SC {A:Type} {c:A→List AV} {P:Program} {n:Nat} {t e:TypeId} {k:Nat} {a:AV} (hk:∀ x,(c x).length=k) (hu:P.underlying t=some (.slice e)) (hce:P.cellsOf e=k) (hx:∀ xs,Fits P n e xs→∃ x,xs=c x) (h:IG P (n+1) t a):∃ l:List A,FzV k a l.length (l.flatMap c):=by
 unfold IG at h
 rw [hu] at h
 simp only at h
 unfold Fits at h
 rw [hu] at h
 rcases h with h | ⟨len,cs,h,hm,hl,hr⟩
 ·cases h;exact ⟨[],by simp,by simp,.inl ⟨rfl,rfl⟩⟩
 ·rw [hce] at h hl hr
  cases h
  obtain ⟨l,hl2,rfl⟩:=RE hk len cs hl (fun i hi=>hx _ (hr i hi))
  have hm2:maxLen≤9223372036854775807:=by decide
  exact ⟨l,by rw [hl,hl2],by omega,.inr ⟨false,by rw [hl2]⟩⟩
theorem LY {P:Program} {n:Nat} {t:TypeId} {k:IntKind} {xs:List AV} (hu:P.underlying t=some (.int k)) (h:Fits P (n+1) t xs):∃ x,xs=[.int k x]:=by
 unfold Fits at h;rw [hu] at h;obtain ⟨z,hz,_⟩:=h;exact ⟨z,hz⟩
end Go.Ev
namespace Go.Ev
open Go
def PJ (P:Program) (t:TypeId):Bool:=match P.underlying t with
 | some (.struct fs)=>(match fs.toList with
  | [a,b,c]=>decide (a.offset=0)&&decide (b.offset=1)&&decide (c.offset=2)&&decide (P.cellsOf a.type=1)&&decide (P.cellsOf b.type=1)&&decide (P.cellsOf c.type=1) &&
   (match P.underlying a.type with | some (.int .i64)=>true | _=>false) &&
   (match P.underlying b.type with | some (.slice e)=>decide (P.cellsOf e=1)&&(match P.underlying e with | some (.int .i64)=>true | _=>false) | _=>false) &&
   (match P.underlying c.type with | some (.int .i64)=>true | _=>false)
  | _=>false)&&decide (P.cellsOf t=3)
 | _=>false
def bh (xs:List AV):Prop:=∃ F ca fu,∃ A:List Int,xs=[.int .i64 F,ca,.int .i64 fu]∧FzV 1 ca A.length (A.flatMap i64c)
theorem Sd {P:Program} {t:TypeId} (h:(match P.underlying t with | some (.int .i64)=>true | _=>false)=true):P.underlying t=some (.int .i64):=by
 split at h
 ·assumption
 ·cases h
theorem Vr {P:Program} {n:Nat} {t:TypeId} {xs:List AV} (hc:PJ P t=true) (h:Fits P (n+3) t xs):bh xs:=by
 unfold PJ at hc
 unfold Fits at h
 split at hc
 ·rename_i fs hu
  rw [hu] at h
  simp only at h
  rw [Bool.and_eq_true,decide_eq_true_eq] at hc
  obtain ⟨hc,h3⟩:=hc
  obtain ⟨hl,hf⟩:=h
  rw [h3] at hl
  split at hc
  ·rename_i a b c he
   simp only [Bool.and_eq_true,decide_eq_true_eq] at hc
   obtain ⟨⟨⟨⟨⟨⟨⟨⟨a0,b0⟩,c0⟩,a1⟩,b1⟩,c1⟩,ai⟩,bi⟩,ci⟩:=hc
   match xs,hl with
   | [x0,x1,x2],_ =>
    have f0:=hf a (by rw [he];simp)
    have f1:=hf b (by rw [he];simp)
    have f2:=hf c (by rw [he];simp)
    rw [a0,a1] at f0
    rw [b0,b1] at f1
    rw [c0,c1] at f2
    simp only [List.drop_zero,List.take_succ_cons,List.take_zero,List.drop_succ_cons] at f0 f1 f2
    obtain ⟨F,hF⟩:=LY (Sd ai) f0
    obtain ⟨fu,hfu⟩:=LY (Sd ci) f2
    cases hF;cases hfu
    split at bi
    ·rename_i e hub
     rw [Bool.and_eq_true,decide_eq_true_eq] at bi
     have hA:IG P (n+2) b.type x1:=by unfold IG;rw [hub];exact f1
     obtain ⟨A,hA2⟩:=SC (c:=i64c) (k:=1) (e:=e) (n:=n+1) (fun _=>rfl) hub bi.1 (fun ys hy=>by obtain ⟨x,rfl⟩:=LY (n:=n) (k:=.i64) (Sd bi.2) hy;exact ⟨x,rfl⟩) hA
     exact ⟨F,x1,fu,A,rfl,hA2⟩
    ·cases bi
  ·cases hc
 ·cases hc
theorem Wv {P:Program} {n:Nat} {t:TypeId} {a:AV} (hc:PJ P t=true) (h:IG P (n+3) t a):∃ F ca fu,∃ A:List Int,a=.agg [.int .i64 F,ca,.int .i64 fu]∧FzV 1 ca A.length (A.flatMap i64c):=by
 have hc':=hc
 unfold PJ at hc
 unfold IG at h
 split at hc
 ·rename_i fs hu
  rw [hu] at h
  obtain ⟨xs,rfl,h⟩:=h
  obtain ⟨F,ca,fu,A,rfl,hA⟩:=Vr hc' h
  exact ⟨F,ca,fu,A,rfl,hA⟩
 ·cases hc
end Go.Ev
set_option linter.unusedSectionVars false
namespace Go.Ev
open Go
theorem aF (nm a:Int) (s:ByteArray):Aq [.int .i32 0,.int .i64 0,.str ⟨#[]⟩] [(0,1,.int .i32 nm),(1,1,.int .i64 a),(2,1,.str s)]=some [.int .i32 nm,.int .i64 a,.str s]:=by
 rw [Ci rfl (by simp),Ci rfl (by simp [AW]),Ci rfl (by simp [AW])];rfl
theorem aG (nm a:Int) (s:ByteArray):Aq [.int .i32 0,.int .i64 0,.str ⟨#[]⟩] [(0,3,.agg [.int .i32 nm,.int .i64 a,.str s])]=some [.int .i32 nm,.int .i64 a,.str s]:=by
 rw [LW (n:=3) (v:=.agg [.int .i32 nm,.int .i64 a,.str s]) rfl (by simp) rfl];rfl
theorem Vq (a:Int):Aq [.int .i64 0] [(0,1,.int .i64 a)]=some [.int .i64 a]:=by
 rw [Ci rfl (by simp)];rfl
section
variable {bar:Nat} {g:H}
theorem NV (s:ByteArray):∃ fa,call tb prim DX [.str s] bar g=some (.agg [.int .i64 1,.int .i64 2,fa],g)∧FzV 3 fa 1 [.int .i32 102,.int .i64 1,.str s]:=by
 suffices hw:∃ r,BO (call tb prim) f_engramlaw14_one [.str s] bar g=some (r,g)∧∃ fa,r=.agg [.int .i64 1,.int .i64 2,fa]∧FzV 3 fa 1 [.int .i32 102,.int .i64 1,.str s] by
  obtain ⟨r,h1,fa,rfl,h2⟩:=hw;exact ⟨fa,Aa Nt h1,h2⟩
 refine Cn rfl rfl fun K hK=>?_
 have hU:=fun a (h:AV.one a=true)=>cA 1 2 h
 simp [f_engramlaw14_one,AZ,go_sem,AA,AB,AC,AF,AD,AH,AE,AQ,a21,AR,AS,a51,AT,AU,AM,Af,aF,aG,AV.cells,hU,BX]
 simp [go_sem,AA,AB,AC,AF,AD,AH,AE,AQ,a21,AR,AS,a51,AT,AU,Bp,AG,AK,AJ,AV.free.freeL,AL,AI,AJ,AV.free,AV.free.freeL]
 exact hK _ ⟨.fz 3 1 [.int .i32 102,.int .i64 1,.str s] true,rfl,⟨rfl,by omega,.inr ⟨true,rfl⟩⟩⟩
theorem JL {code:ByteArray} {c:Code'} (hu:UnitOk 1 2 [⟨102,1,code⟩] [c]) {fuel:Int} (h0:0≤fuel) (h1:fuel≤1048576) {s':Mc} {v:Int} {n':Nat} (hr:By [⟨102,1,code⟩] [c] fuel.toNat ⟨[FW c [5]],Fk 1 2,⟨[],[]⟩,0⟩=some (s',v,n')) :
  ∃ xa,call tb prim Ch [.str code,.int .i64 fuel] bar g=some (.tup [.agg [.int .i64 v,.int .i64 s'.trap,.int .i64 n',xa],.int .i64 0],g)∧xa.one=true:=by
 suffices hw:∃ r,BO (call tb prim) f_engramlaw14_run [.str code,.int .i64 fuel] bar g=some (r,g)∧∃ xa,r=.tup [.agg [.int .i64 v,.int .i64 s'.trap,.int .i64 n',xa],.int .i64 0]∧xa.one=true by
  obtain ⟨r,h1,xa,rfl,h2⟩:=hw;exact ⟨xa,Aa Nu h1,h2⟩
 refine Cn rfl rfl fun K hK=>?_
 obtain ⟨g1,hg1⟩:∃ g1,g1=g.alloc (.cells [.int .i64 0,.int .i64 0,.int .i64 0,.nilsl] 0):=⟨_,rfl⟩
 have n1:g1.n=g.n+1:=by rw [hg1,AB]
 have gC:g1.get g.n=some (.cells [.int .i64 0,.int .i64 0,.int .i64 0,.nilsl] 0):=by rw [hg1,AA,if_pos rfl]
 obtain ⟨fa,e1,hfa⟩:=NV (bar:=g.n) (g:=g1) code
 have hFV:FV g1 fa [⟨102,1,code⟩]:=hfa.vw g1
 have hcode:codeW ⟨102,1,code⟩=c:=by have:=hu.codes;simpa using this
 obtain ⟨g2,M,g3,g5,xa,e2,e3,n3,n2,k2,k3,e5,hxa,n5,k5⟩:=ZV (bar:=g.n) (g:=g1) hu hFV (by omega) (pages:=1) (most:=2) (by omega) (by omega) (nm:=102) (fuel:=fuel) h0 h1 (k:=0) rfl (f:=⟨102,1,code⟩) rfl (args:=[5]) rfl (by simp) (by rw [hcode];exact hr)
 unfold Gr at e5
 rw [show ((1:Nat):Int)=1 from rfl] at e2
 rw [show (List.map (AV.int .i64) [(5:Int)])=[.int .i64 5] from rfl,show [(5:Int)].length=1 from rfl] at e5
 have hall:([.int .i64 v,.int .i64 s'.trap,.int .i64 n',xa]:List AV).all AV.one=true:=by
  show (true&&(true&&(true&&(xa.one&&true))))=true
  rw [hxa.one];rfl
 have gC5:g5.get g.n=some (.cells [.int .i64 0,.int .i64 0,.int .i64 0,.nilsl] 0):=by rw [k5 _ (by omega) (.inr trivial)];exact gC
 obtain ⟨g6,hg6⟩:∃ g6,g6=g5.set g.n (.cells [.int .i64 v,.int .i64 s'.trap,.int .i64 n',xa] 0):=⟨_,rfl⟩
 have gC6:g6.get g.n=some (.cells [.int .i64 v,.int .i64 s'.trap,.int .i64 n',xa] 0):=by rw [hg6,AC,if_pos rfl]
 simp [f_engramlaw14_run,AZ,go_sem,AA,AB,AC,AF,AD,AH,AE,AQ,a21,AR,AS,a51,AT,AU,AM]
 rw [← hg1]
 simp [go_sem,AA,AB,AC,AF,AD,AH,AE,AQ,a21,AR,AS,a51,AT,AU,AM,e1,e2,e3,Af,Vq,e5,AV.cells,hall,Hs,gC5]
 rw [← hg6]
 have hx1:=hxa.one
 obtain ⟨_,_,⟨hx,_⟩ | ⟨full,hx⟩⟩:=hxa
 ·subst hx
  simp [go_sem,AA,AB,AC,AF,AD,AH,AE,AQ,a21,AR,AS,a51,AT,AU,Bp,AG,AK,AJ,AV.free.freeL,AL,gC6,AI,AJ,AV.free,AV.free.freeL]
  exact hK _ ⟨_,rfl,rfl⟩
 ·subst hx
  simp [go_sem,AA,AB,AC,AF,AD,AH,AE,AQ,a21,AR,AS,a51,AT,AU,Bp,AG,AK,AJ,AV.free.freeL,AL,gC6,AI,AJ,AV.free,AV.free.freeL]
  exact hK _ ⟨_,rfl,rfl⟩
theorem VX (p mo:Int) (nm:Int) (code:ByteArray) (c:Code') (a:Int) (h1:DH p mo [⟨nm,a,code⟩]=0) (h2:codeW ⟨nm,a,code⟩=c):UnitOk p mo [⟨nm,a,code⟩] [c]:=by
 have:=UnitOk.of_right h1
 simpa [h2] using this
def aJ:Code':=⟨[nu 1,nu 2,tk 43],[-1,-1,-1],1⟩
def aL:Code':=⟨[nu 1],[-1],1⟩
def aN:Code':=⟨[tk 97,⟨955,0,102⟩],[-1,-1],1⟩
theorem aK:(By [⟨102,1,⟨#[49,32,50,43]⟩⟩] [aJ] 9 ⟨[FW aJ [5]],Fk 1 2,⟨[],[]⟩,0⟩).map (fun x=>(x.1.trap,x.2.1,x.2.2))=some (0,3,6):=by kernel_rfl
theorem aM:(By [⟨102,1,⟨#[49]⟩⟩] [aL] 0 ⟨[FW aL [5]],Fk 1 2,⟨[],[]⟩,0⟩).map (fun x=>(x.1.trap,x.2.1,x.2.2))=some (1,0,0):=by kernel_rfl
theorem aO:(By [⟨102,1,⟨#[97,206,187,102]⟩⟩] [aN] 999 ⟨[FW aN [5]],Fk 1 2,⟨[],[]⟩,0⟩).map (fun x=>(x.1.trap,x.2.1))=some (6,0):=by kernel_rfl
theorem NX {A B:Type} {f:A→B} {o:Option A} {y:B} (h:o.map f=some y):∃ x,o=some x∧f x=y:=by
 cases o with
 | none=>cases h
 | some x=>exact ⟨x,rfl,by simpa using h⟩
theorem QV:call tb prim Cl [] bar g=some (.bool true,g):=by
 refine Aa MH (Ah rfl rfl (BP ?_))
 obtain ⟨⟨s1,v1,f1⟩,r1,q1⟩:=NX aK
 obtain ⟨⟨s2,v2,f2⟩,r2,q2⟩:=NX aM
 obtain ⟨⟨s3,v3,f3⟩,r3,q3⟩:=NX aO
 simp only [Prod.mk.injEq] at q1 q2 q3
 obtain ⟨t1,rfl,rfl⟩:=q1
 obtain ⟨t2,rfl,rfl⟩:=q2
 obtain ⟨t3,rfl⟩:=q3
 obtain ⟨g1,hg1⟩:∃ g1,g1=g:=⟨_,rfl⟩
 obtain ⟨x1,e1,y1⟩:=JL (bar:=g.n) (g:=g) (VX 1 2 102 _ aJ 1 (by kernel_rfl) (by kernel_rfl)) (by omega) (by omega) (fuel:=9) r1
 rw [t1] at e1
 have a1:([.int .i64 3,.int .i64 0,.int .i64 (6:Nat),x1]:List AV).all AV.one=true:=by
  show (true&&(true&&(true&&(x1.one&&true))))=true
  rw [y1];rfl
 obtain ⟨ga,hga⟩:∃ ga,ga=(g.alloc (.cells [.int .i64 0,.int .i64 0,.int .i64 0,.nilsl] 0)).set g.n (.cells [.int .i64 3,.int .i64 0,.int .i64 6,x1] 0):=⟨_,rfl⟩
 obtain ⟨x2,e2,y2⟩:=JL (bar:=g.n) (g:=ga) (VX 1 2 102 _ aL 1 (by kernel_rfl) (by kernel_rfl)) (by omega) (by omega) (fuel:=0) r2
 rw [t2] at e2
 have a2:([.int .i64 0,.int .i64 1,.int .i64 (0:Nat),x2]:List AV).all AV.one=true:=by
  show (true&&(true&&(true&&(x2.one&&true))))=true
  rw [y2];rfl
 obtain ⟨gb,hgb⟩:∃ gb,gb=(ga.alloc (.cells [.int .i64 0,.int .i64 0,.int .i64 0,.nilsl] 0)).set ga.n (.cells [.int .i64 0,.int .i64 1,.int .i64 0,x2] 0):=⟨_,rfl⟩
 obtain ⟨x3,e3,y3⟩:=JL (bar:=g.n) (g:=gb) (VX 1 2 102 _ aN 1 (by kernel_rfl) (by kernel_rfl)) (by omega) (by omega) (fuel:=999) r3
 rw [t3] at e3
 have a3:([.int .i64 0,.int .i64 6,.int .i64 f3,x3]:List AV).all AV.one=true:=by
  show (true&&(true&&(true&&(x3.one&&true))))=true
  rw [y3];rfl
 obtain ⟨gc,hgc⟩:∃ gc,gc=(gb.alloc (.cells [.int .i64 0,.int .i64 0,.int .i64 0,.nilsl] 0)).set gb.n (.cells [.int .i64 0,.int .i64 6,.int .i64 f3,x3] 0):=⟨_,rfl⟩
 have na:ga.n=g.n+1:=by rw [hga,AF,AB]
 have nb:gb.n=g.n+2:=by rw [hgb,AF,AB,na]
 have nc:gc.n=g.n+3:=by rw [hgc,AF,AB,nb]
 obtain ⟨fa,e4,hfa⟩:=NV (bar:=g.n) (g:=gc) ⟨#[49]⟩
 obtain ⟨gd,e5,hR,nd,kd⟩:=KV (bar:=g.n) (g:=gc) (by omega)
 obtain ⟨ge,hge⟩:∃ ge,ge=gd.alloc (.cells [.int .i64 0] 0):=⟨_,rfl⟩
 have ne:ge.n=gd.n+1:=by rw [hge,AB]
 obtain ⟨gf,e6,nf,kf⟩:=Xo (bar:=g.n) (g:=ge) (p:=1) (mo:=2) (aa:=.sl gd.n 0 1 1 true) (Rv:=.ptr gc.n 0) (nm:=102) (fuel:=1) hfa.one (by omega) (.inl rfl)
 unfold Xj at e6
 have c1:gf.get g.n=some (.cells [.int .i64 3,.int .i64 0,.int .i64 6,x1] 0):=by
  rw [kf _ (by omega),hge,AA,if_neg (by omega),kd _ (by omega),hgc,AO (by omega),AA,if_neg (by omega),hgb,AO (by omega),AA,if_neg (by omega),hga,AC,if_pos rfl]
 have c2:gf.get ga.n=some (.cells [.int .i64 0,.int .i64 1,.int .i64 0,x2] 0):=by
  rw [kf _ (by omega),hge,AA,if_neg (by omega),kd _ (by omega),hgc,AO (by omega),AA,if_neg (by omega),hgb,AC,if_pos rfl]
 have c3:gf.get gb.n=some (.cells [.int .i64 0,.int .i64 6,.int .i64 f3,x3] 0):=by
  rw [kf _ (by omega),hge,AA,if_neg (by omega),kd _ (by omega),hgc,AC,if_pos rfl]
 have hbf:g.n≤gf.n:=by omega
 have hba:g.n≤ga.n:=by omega
 have hbb:g.n≤gb.n:=by omega
 have i1:¬ g.n=gf.n:=by omega
 have i2:¬ ga.n=gf.n:=by omega
 have i3:¬ gb.n=gf.n:=by omega
 simp [f_engramlaw14_known,AZ,go_sem,AA,AB,AC,AF,AD,AH,AE,AQ,a21,AR,AS,a51,AT,AU,AM,e1,AV.cells,y1,Hs]
 simp only [← hga]
 simp [go_sem,AA,AB,AC,AF,AD,AH,AE,AQ,a21,AR,AS,a51,AT,AU,AM,e2,AV.cells,y2,Hs,hba]
 simp only [← hgb]
 simp [go_sem,AA,AB,AC,AF,AD,AH,AE,AQ,a21,AR,AS,a51,AT,AU,AM,e3,AV.cells,y3,Hs,hbb]
 simp only [← hgc]
 simp [go_sem,AA,AB,AC,AF,AD,AH,AE,AQ,a21,AR,AS,a51,AT,AU,AM,e4,e5,Af,Vq,← hge,e6,AV.cells,Hs,hbf]
 simp [go_sem,AA,AB,AC,AF,AD,AH,AE,AQ,a21,AR,AS,a51,AT,AU,AM,c1,c2,c3,i1,i2,i3]
 simp [go_sem,AY,AX,AG,AK,AJ,AI,AV.free.freeL,AV.free,AL,AN]
end
end Go.Ev
set_option linter.unusedSectionVars false
namespace Go.Ev
open Go
theorem XW (i:Nat):FD (Hw i)=true:=by
 unfold Hw
 split
 ·decide
 ·split<;>decide
theorem GoodU.find {fs:List Fn} (h:GoodU fs) {i:Nat} (hi:i<fs.length):BG fs[i].name fs 0=(i:Int):=by
 obtain ⟨h3,hn,_⟩:=h
 match fs,h3,hn,hi with
 | [a],_,hn,hi =>
  have h0:=(hn 0 (by simp)).1
  match i,hi with
  | 0,_=>simp [BG]
 | [a,b],_,hn,hi =>
  have h0:=(hn 0 (by simp)).1
  have h1:=(hn 1 (by simp)).1
  simp [Hw] at h0 h1
  match i,hi with
  | 0,_=>simp [BG]
  | 1,_=>simp [BG,h0,h1]
 | [a,b,c],_,hn,hi =>
  have h0:=(hn 0 (by simp)).1
  have h1:=(hn 1 (by simp)).1
  have h2:=(hn 2 (by simp)).1
  simp [Hw] at h0 h1 h2
  match i,hi with
  | 0,_=>simp [BG]
  | 1,_=>simp [BG,h0,h1]
  | 2,_=>simp [BG,h0,h1,h2]
theorem Sr {fs:List Fn} (h:∀ (i:Nat) (hi:i<fs.length),Eh fs fs[i] i=true):∀ (k i:Nat),i+k=fs.length→FE fs k i=true
 | 0,_,_=>rfl
 | k+1,i,hk=>by
  rw [FE,List.getElem?_eq_getElem (by omega)]
  simp only
  rw [if_pos (h i (by omega))]
  exact Sr h k (i+1) (by omega)
theorem UB {fs:List Fn} (h:∀ (i:Nat),i<fs.length→NK fs i=0):∀ (k i:Nat),i+k=fs.length→Fy fs k i=0
 | 0,_,_=>rfl
 | k+1,i,hk=>by
  rw [Fy,if_neg (by rw [h i (by omega)];simp)]
  exact UB h k (i+1) (by omega)
theorem GoodU.right {fs:List Fn} (h:GoodU fs) {p m:Int} (h0:0≤p) (h1:p≤m) (h2:m≤64):DH p m fs=0:=by
 unfold DH
 rw [if_neg (by omega),if_neg (by have:=h.1;omega),if_pos]
 ·refine UB (fun i hi=>?_) _ 0 (by omega)
  unfold NK
  rw [Qx hi]
  exact (h.2.2 i hi).2
 ·refine Sr (fun i hi=>?_) _ 0 (by omega)
  have hn:=h.2.1 i hi
  unfold Eh
  rw [h.find hi]
  simp only [beq_self_eq_true,Bool.and_true,Bool.and_eq_true,decide_eq_true_eq]
  exact ⟨⟨by rw [hn.1];exact XW i,hn.2.1⟩,by omega⟩
theorem XF {bar n O p:Nat} {h:H} {cs:List AV} {full:Bool} (hg:h.get O=some (.cells cs p)) (hb:bar≤O) (hl:cs.length=n) (h1:cs.all AV.stay=true) (h2:cs.all AV.free=true) (h3:cs.all AV.one=true) (d:Nat):AI bar (d+2) h (.sl O 0 1 n full)=some (.fz 1 n cs full,h.set O (.cells cs (max p (0+n*1)))):=by
 have hcs:(cs.drop 0).take (n*1)=cs:=by rw [List.drop_zero,List.take_of_length_le (by omega)]
 simp only [AI,hg]
 rw [if_pos ⟨hb,by omega⟩,hcs,Hk h1]
 simp only
 rw [if_pos ⟨h2,h3⟩]
theorem XI (l:List Int):(l.flatMap i64c).all AV.stay=true∧(l.flatMap i64c).all AV.free=true∧(l.flatMap i64c).all AV.one=true:=by
 have h:∀ y ∈ l.flatMap i64c,∃ x,y=.int .i64 x:=fun y hy=>by
  obtain ⟨x,_,hx⟩:=List.mem_flatMap.mp hy
  simp [i64c] at hx
  exact ⟨x,hx⟩
 refine ⟨?_,?_,?_⟩<;>(rw [List.all_eq_true];intro y hy;obtain ⟨x,rfl⟩:=h y hy;rfl)
theorem TC:∀ n:Nat,rep [.int .i64 0] n=(List.replicate n (0:Int)).flatMap i64c
 | 0=>rfl
 | n+1=>by rw [List.replicate_succ,List.flatMap_cons,← TC n];rfl
section
variable {bar:Nat} {g:H}
def QJ (f:Fn):Nat:=(max (min f.args 4) 0).toNat
theorem QK {ca:AV} {A:List Int} (hv:Vw 1 g ca A.length (A.flatMap i64c)) {C O n:Nat} {x6 c0 c2:AV} (hC:g.get C=some (.cells [c0,ca,c2] 0)) (hCO:C≠O) (hCl:C<g.n) (hcaO:¬ ca.isAt O) (hbO:bar≤O) (hn4:n≤4) (Q:Ex→Env→H→Prop) (hq:∀ e g' (l:List Int),e.get 6=some x6→e.get 7=some (.sl O 0 1 n true)→l.length=n→g'.get O=some (.cells (l.flatMap i64c) 0)→g'.n=g.n→(∀ j,j≠O→g'.get j=g.get j)→Q (.exit 0) e g'):∀ (k i:Nat) (g':H) (l:List Int),n=i+k→l.length=n→g'.get O=some (.cells (l.flatMap i64c) 0)→g'.n=g.n→(∀ j,j≠O→g'.get j=g.get j) →
  Cv (call tb prim) bar [3,6,7,29,30] Es [(3,.ptr C 0),(6,x6),(7,.sl O 0 1 n true),(29,.int .i64 (n:Nat)),(30,.int .i64 (i:Nat))] g' Q
 | 0,i,g',l,hk,hl,hg,hn,hf=>by
  refine Am Es.eq_1 ?_
  have hi:i=n:=by omega
  subst hi
  simp [go_sem]
  exact hq _ _ l rfl rfl hl hg hn hf
 | k+1,i,g',l,hk,hl,hg,hn,hf=>by
  refine Am Es.eq_1 ?_
  have hlt:(i:Int)<(n:Int):=by omega
  have hw:=BT (n:=i) (by omega)
  have hC':g'.get C=some (.cells [c0,ca,c2] 0):=by rw [hf C hCO];exact hC
  have hv':Vw 1 g' ca A.length (A.flatMap i64c):=hv.keep (by omega) (fun j hj=>hf j (fun q=>hcaO (q ▸ hj)))
  have hlen:=fun h=>hv'.len h
  have ix:AP (.int .i64 (i:Int)) n=some i:=by simp only [AP];rw [if_pos (by omega),Int.toNat_natCast]
  by_cases c:i<A.length
  ·have hci:(i:Int)<(A.length:Int):=by omega
   have hx:(A.flatMap i64c)[i]? = some (.int .i64 A[i]):=Kg c
   obtain ⟨x,hx0⟩:∃ x,x=A[i]:=⟨_,rfl⟩
   rw [← hx0] at hx
   have hs:AW (l.flatMap i64c) i [.int .i64 x]=(l.set i x).flatMap i64c:=OJ (by omega) x
   have ln:(l.flatMap i64c).length=n:=by rw [EB,hl]
   have i1:i+1≤n:=by omega
   have hN:=QK hv hC hCO hCl hcaO hbO hn4 Q hq k (i+1) (g'.set O (.cells ((l.set i x).flatMap i64c) 0)) (l.set i x) (by omega) (by simpa using hl) (by rw [AC,if_pos rfl]) (by rw [AF];exact hn) (fun j hj=>by rw [AO hj];exact hf j hj)
   simp [go_sem,AA,AB,AC,AF,AD,AH,AE,AQ,a21,AR,AS,a51,AT,AU,AM,hlt,hC',hlen,BE,hci,c]
   refine YV hv' c hx fun u=>?_
   simp [go_sem,AA,AB,AC,AF,AD,AH,AE,AQ,a21,AR,AS,a51,AT,AU,AM,ix,hg,ln,i1,hs,hbO,hw]
   exact hN
  ·have hci:¬ (i:Int)<(A.length:Int):=by omega
   have hN:=QK hv hC hCO hCl hcaO hbO hn4 Q hq k (i+1) g' l (by omega) hl hg hn hf
   simp [go_sem,AA,AB,AC,AF,AD,AH,AE,AQ,a21,AR,AS,a51,AT,AU,AM,hlt,hC',hlen,BE,hci,c,hw]
   exact hN
theorem YP {fa ca:AV} {fs:List Fn} {A:List Int} (hfa:FzV 3 fa fs.length (fs.flatMap Fn.cells)) (hne:1≤fs.length) (hl:fs.length≤100) (hv:Vw 1 g ca A.length (A.flatMap i64c)) (p m F fu:Int) :
  ∃ (k:Nat) (f:Fn) (aa:AV) (args:List Int),call tb prim EJ [.agg [.int .i64 p,.int .i64 m,fa],.agg [.int .i64 F,ca,.int .i64 fu]] bar g=some (.tup [.int .i32 f.name,aa],g)∧fs[k]? = some f∧FzV 1 aa args.length (args.map (AV.int .i64))∧args.length=QJ f:=by
 obtain ⟨full,hfe⟩:∃ full,fa=.fz 3 fs.length (fs.flatMap Fn.cells) full:=by
  obtain ⟨_,_,⟨_,h0⟩ | h⟩:=hfa
  ·omega
  ·exact h
 obtain ⟨v,hv0⟩:∃ v,v=(HF F 1048576).tmod (max (fs.length:Int) 1):=⟨_,rfl⟩
 have v0:0≤v:=by rw [hv0];exact Int.tmod_nonneg _ (OC F 1048576 (by omega)).1
 have v1:v<max (fs.length:Int) 1:=by rw [hv0];exact Int.tmod_lt_of_pos _ (by omega)
 have ea:=fun h'=>Zx (bar:=g.n) (h:=h') F fs.length (by omega)
 rw [← hv0] at ea
 obtain ⟨k,hk⟩:∃ k:Nat,v=k:=⟨v.toNat,by omega⟩
 subst hk
 have hkl:k<fs.length:=by omega
 obtain ⟨f,hf⟩:∃ f,f=fs[k]:=⟨_,rfl⟩
 have hfk:fs[k]? = some f:=by rw [List.getElem?_eq_getElem hkl,hf]
 suffices hw:∃ r,BO (call tb prim) f_engramkeep_Args [.agg [.int .i64 p,.int .i64 m,fa],.agg [.int .i64 F,ca,.int .i64 fu]] bar g=some (r,g)∧∃ aa,∃ args:List Int,r=.tup [.int .i32 f.name,aa]∧FzV 1 aa args.length (args.map (AV.int .i64))∧args.length=QJ f by
  obtain ⟨r,h1,aa,args,rfl,h2,h3⟩:=hw;exact ⟨k,f,aa,args,Aa Nr h1,hfk,h2,h3⟩
 refine Cn rfl rfl fun K hK=>?_
 obtain ⟨h2,hh2⟩:∃ h2,h2=((g.alloc (.cells [.int .i64 p,.int .i64 m,fa] 0)).alloc (.cells [.int .i64 F,ca,.int .i64 fu] 0)):=⟨_,rfl⟩
 have n2:h2.n=g.n+2:=by rw [hh2];simp [AB]
 have k2:∀ j,j<g.n→h2.get j=g.get j:=fun j hj=>by rw [hh2,AA,if_neg (by rw [AB];omega),AA,if_neg (by omega)]
 have gU:h2.get g.n=some (.cells [.int .i64 p,.int .i64 m,fa] 0):=by rw [hh2,AA,if_neg (by rw [AB];omega),AA,if_pos rfl]
 have gC:h2.get (g.n+1)=some (.cells [.int .i64 F,ca,.int .i64 fu] 0):=by rw [hh2,AA,if_pos (by rw [AB])]
 obtain ⟨h3,hh3⟩:∃ h3,h3=(h2.alloc (.cells [.int .i32 0,.int .i64 0,.str ⟨#[]⟩] 0)).set h2.n (.cells [.int .i32 f.name,.int .i64 f.args,.str f.code] 0):=⟨_,rfl⟩
 have n3:h3.n=g.n+3:=by rw [hh3,AF,AB,n2]
 have k3:∀ j,j<h2.n→h3.get j=h2.get j:=fun j hj=>by rw [hh3,AO (by omega),AA,if_neg (by omega)]
 have gF:h3.get h2.n=some (.cells [.int .i32 f.name,.int .i64 f.args,.str f.code] 0):=by rw [hh3,AC,if_pos rfl]
 have hone:=hfa.one
 have hflen:=fun h=>hfa.len h
 have hca1:=hv.one
 have hrow:((fs.flatMap Fn.cells).drop (k*3)).take 3=[.int .i32 f.name,.int .i64 f.args,.str f.code]:=by
  have:=SZ hkl;rw [← hf] at this;exact this
 have hfl2:(fs.flatMap Fn.cells).length=fs.length*3:=GL Fn.cells_len fs
 have ix:AP (.int .i64 (k:Int)) fs.length=some k:=by simp only [AP];rw [if_pos (by omega),Int.toNat_natCast]
 have hne0:((fs.length:Int) == 0)=false:=by simp;intro h;subst h;simp at hne
 have hle3:k*3+3≤fs.length*3:=by omega
 obtain ⟨cs,hcs⟩:∃ cs,cs=fs.flatMap Fn.cells:=⟨_,rfl⟩
 obtain ⟨N,hN⟩:∃ N,N=fs.length:=⟨_,rfl⟩
 rw [← hcs] at hrow hfl2 hfe
 rw [← hN] at hfl2 hfe hflen ix hne0 hle3 ea
 have hfl3:(cs.length=N*3)=True:=by simpa using hfl2
 have hle4:k*3+3≤cs.length:=by omega
 have hU2n:¬ g.n=h2.n:=by omega
 have hC2n:¬ g.n+1=h2.n:=by omega
 have hb2:g.n≤h2.n:=by omega
 simp [f_engramkeep_Args,AZ,go_sem,AA,AB,AC,AF,AD,AH,AE,AQ,a21,AR,AS,a51,AT,AU,AM,hone,hca1]
 rw [← hh2]
 simp [go_sem,AA,AB,AC,AF,AD,AH,AE,AQ,a21,AR,AS,a51,AT,AU,AM,gU,gC,hflen,BE,hne0]
 rw [hfe] at gU ⊢
 refine ⟨⟨Ak rfl ?_,Ak rfl ?_,Ak rfl ?_,Ak rfl ?_,Ak rfl ?_⟩,?_⟩
 ·simp [-getElem?_pos,Aw,Ao,Ai,Ac,Ad,List.take,List.take_succ_cons,List.take_zero,go_sem,AA,AB,AC,AF,AD,AH,AE,AQ,a21,AR,AS,a51,AT,AU,AM,gU,gC,ea,ix,hfl3,hle4,hle3,hrow,hU2n,hC2n,hb2,BE,List.getElem?_cons_zero,List.getElem?_cons_succ]
 ·simp [-getElem?_pos,Aw,Ao,Ai,Ac,Ad,List.take,List.take_succ_cons,List.take_zero,go_sem,AA,AB,AC,AF,AD,AH,AE,AQ,a21,AR,AS,a51,AT,AU,AM,gU,gC,ea,ix,hfl3,hle4,hle3,hrow,hU2n,hC2n,hb2,BE,List.getElem?_cons_zero,List.getElem?_cons_succ]
 ·simp [-getElem?_pos,Aw,Ao,Ai,Ac,Ad,List.take,List.take_succ_cons,List.take_zero,go_sem,AA,AB,AC,AF,AD,AH,AE,AQ,a21,AR,AS,a51,AT,AU,AM,gU,gC,ea,ix,hfl3,hle4,hle3,hrow,hU2n,hC2n,hb2,BE,List.getElem?_cons_zero,List.getElem?_cons_succ]
 ·simp [-getElem?_pos,Aw,Ao,Ai,Ac,Ad,List.take,List.take_succ_cons,List.take_zero,go_sem,AA,AB,AC,AF,AD,AH,AE,AQ,a21,AR,AS,a51,AT,AU,AM,gU,gC,ea,ix,hfl3,hle4,hle3,hrow,hU2n,hC2n,hb2,BE,List.getElem?_cons_zero,List.getElem?_cons_succ]
 ·simp [-getElem?_pos,Aw,Ao,Ai,Ac,Ad,List.take,List.take_succ_cons,List.take_zero,go_sem,AA,AB,AC,AF,AD,AH,AE,AQ,a21,AR,AS,a51,AT,AU,AM,gU,gC,ea,ix,hfl3,hle4,hle3,hrow,hU2n,hC2n,hb2,BE,List.getElem?_cons_zero,List.getElem?_cons_succ]
 obtain ⟨n,hn⟩:∃ n,n=QJ f:=⟨_,rfl⟩
 have hn4:n≤4:=by rw [hn];unfold QJ;omega
 have hmm:(if (if 4<f.args then 4 else f.args)<0 then (0:Int) else (if 4<f.args then 4 else f.args))=(n:Int):=by
  rw [hn];unfold QJ;split<;>split<;>omega
 obtain ⟨h4,hh4⟩:∃ h4,h4=h3.alloc (.cells ((List.replicate n (0:Int)).flatMap i64c) 0):=⟨_,rfl⟩
 have n4:h4.n=g.n+4:=by rw [hh4,AB,n3]
 have k4:∀ j,j<h3.n→h4.get j=h3.get j:=fun j hj=>by rw [hh4,AA,if_neg (by omega)]
 have gO:h4.get h3.n=some (.cells ((List.replicate n (0:Int)).flatMap i64c) 0):=by rw [hh4,AA,if_pos rfl]
 have hrep:=TC n
 have hC4:h4.get (g.n+1)=some (.cells [.int .i64 F,ca,.int .i64 fu] 0):=by rw [k4 _ (by omega),k3 _ (by omega)];exact gC
 have hF4:h4.get h2.n=some (.cells [.int .i32 f.name,.int .i64 f.args,.str f.code] 0):=by rw [k4 _ (by omega)];exact gF
 have hv4:Vw 1 h4 ca A.length (A.flatMap i64c):=hv.keep (by omega) (fun j hj=>by have:=hv.at_lt' hj;rw [k4 j (by omega),k3 j (by omega),k2 j (by omega)])
 have hm1:(n:Int)*8≤140737488355328:=by omega
 have hm2:(n:Int)≤9223372036854775807:=by omega
 simp [go_sem,AA,AB,AC,AF,AD,AH,AE,AQ,a21,AR,AS,a51,AT,AU,AM,ea,ix,hfl3,hle4,hle3,hrow,hb2,bT,hmm,hm1,hm2,hrep]
 rw [← hh3,← hh4]
 have hO:h2.n+1=h3.n:=by omega
 rw [hO]
 refine QK hv4 (C:=g.n+1) (O:=h3.n) hC4 (by omega) (by omega) (fun q=>by have:=hv.at_lt' q;omega) (by omega) hn4 _ (fun e g' l q6 q7 ql hg' hn' hf'=>?_) n 0 h4 (List.replicate n 0) (by omega) (by simp) gO rfl (fun _ _=>rfl)
 have hF5:g'.get h2.n=some (.cells [.int .i32 f.name,.int .i64 f.args,.str f.code] 0):=by rw [hf' _ (by omega)];exact hF4
 obtain ⟨s1,s2,s3⟩:=XI l
 have hfr:=fun d=>XF (bar:=g.n) (n:=n) (full:=true) hg' (by omega) (by rw [EB,ql]) s1 s2 s3 d
 have hfr1:=hfr 1
 have hfr2:=hfr 2
 have hi1:∀ (d:Nat) (h:H),AI g.n (d+1) h (.int .i32 f.name)=some (.int .i32 f.name,h):=fun d h=>NM rfl
 have hi2:=hi1 2
 have hi3:=hi1 3
 have hmap:(l.map (AV.int .i64))=l.flatMap i64c:=by
  clear hg' hfr hfr1 hfr2 s1 s2 s3 ql
  induction l with
  | nil=>rfl
  | cons x r ih=>rw [List.map_cons,List.flatMap_cons,ih];rfl
 simp [go_sem,AA,AB,AC,AF,AD,AH,AE,AQ,a21,AR,AS,a51,AT,AU,AM,q6,q7,hF5]
 simp [go_sem,AA,AB,AC,AF,AD,AH,AE,AQ,a21,AR,AS,a51,AT,AU,Bp,AG,AK,AJ,AV.free.freeL,AL,hi2,hi3,hfr1,hfr2,AV.free,AV.one]
 exact hK _ ⟨_,l,rfl,⟨by simp,by omega,.inr ⟨true,by rw [hmap,ql]⟩⟩,by rw [ql,hn]⟩
end
end Go.Ev
set_option linter.unusedSectionVars false
namespace Go.Ev
open Go
section
variable {bar:Nat} {g:H}
theorem Lz {fa aa:AV} {fs:List Fn} {cs:List Code'} {p mo:Int} (hu:UnitOk p mo fs cs) (hv:FV g fa fs) (hbar:bar≤g.n) {pages:Nat} {most:Int} (hp:(pages:Int)≤most) (hmo:most≤64)
  {nm fuel:Int} (hf0:0≤fuel) (hf1:fuel≤1048576) {k:Nat} (hk:BG nm fs 0=k) {f:Fn} (hf:fs[k]? = some f) {args:List Int} (hargs:f.args=args.length) (haa:Vw 1 g aa args.length (args.map (AV.int .i64)))
  {s':Mc} {v:Int} {n':Nat} (hrun:By fs cs fuel.toNat ⟨[FW (codeW f) args],Fk pages most,⟨[],[]⟩,0⟩=some (s',v,n')) :
  ∃ g2 M g3 g5 xa,call tb prim DI [.int .i64 pages,.int .i64 most] bar g=some (.ptr M 0,g2)∧call tb prim Cs [.nilsl] bar g2=some (.ptr g2.n 0,g3)∧g3.n=g2.n+1∧g.n≤g2.n∧(∀ j,j<g.n→g2.get j=g.get j)∧(∀ j,j<g2.n→g3.get j=g2.get j) ∧
   call tb prim CE [.agg [.int .i64 p,.int .i64 mo,fa],.ptr M 0,.ptr g2.n 0,.int .i32 nm,.int .i64 fuel,aa] bar g3=some (Gr v s'.trap n' xa,g5)∧xa.one=true∧g.n≤g5.n∧(∀ j,j<g.n→g5.get j=g.get j):=by
 obtain ⟨g2,M,ba,da,e2,hM,n2,k2⟩:=WN (bar:=bar) (g:=g) pages most hp hmo hbar
 obtain ⟨g3,e3,hR,n3,k3⟩:=KV (bar:=bar) (g:=g2) (by omega)
 have hMl:=hM.lt
 have hMb:=hM.bM
 have hM4:MemV g3 bar M (Fk pages most) ba da:=by
  have h1:MemV g3 g.n M (Fk pages most) ba da:=hM.mono (by omega) (k3 _ hMl) (fun j hj=>k3 j (hM.ob.at_lt hj).2) (fun j hj=>k3 j (hM.od.at_lt hj).2)
  exact ⟨h1.get,by omega,h1.lt,h1.ob.bar_le hbar,h1.od.bar_le hbar,h1.nb,h1.nd,h1.ap,h1.sz,h1.m0,h1.m1,h1.rng⟩
 have hR4:RowV g3 bar g2.n ⟨[],[]⟩ .nilsl .nilsl:=⟨hR.get,by omega,hR.lt,hR.l,OW.nil,hR.nl,hR.na,hR.ap,hR.sm⟩
 have hva:Vw 1 g3 aa args.length (args.map (AV.int .i64)):=haa.keep (by omega) (fun j hj=>by have:=haa.at_lt' hj;rw [k3 _ (by omega),k2 _ this])
 have hv4:FV g3 fa fs:=hv.keep (by omega) (fun j hj=>by have:=hv.at_lt' hj;rw [k3 _ (by omega),k2 _ this])
 obtain ⟨xa,g5,own',ids,C,e5,hxa,_,_,_,_,_,k5,_⟩:=WZ (bar:=bar) hu hv4 hM4 hR4 (by omega) (by omega) (fun q=>by have:=(hM.ob.at_lt q).2;omega) (fun q=>by have:=(hM.od.at_lt q).2;omega) (fun j hj=>hj.elim) (fun j hj=>hj.elim)
  (fun j hj=>by have:=hv.at_lt' hj;exact ⟨by omega,by omega,fun q=>by have:=(hM.ob.at_lt q).1;omega,fun q=>by have:=(hM.od.at_lt q).1;omega,fun q=>q,fun q=>q⟩) hf0 hf1 hk hf hva hargs (by simp) hrun
 refine ⟨g2,M,g3,g5,xa,e2,e3,n3,n2,k2,k3,e5,hxa.one,by have:=k5.1;omega,fun j hj=>?_⟩
 rw [k5.2 j (by omega) ?_,k3 _ (by omega),k2 _ hj]
 have h1:j≠M:=by omega
 have h2:j≠g2.n:=by omega
 have h3:¬ ba.isAt j:=fun q=>by have:=(hM.ob.at_lt q).1;omega
 have h4:¬ da.isAt j:=fun q=>by have:=(hM.od.at_lt q).1;omega
 have h5:¬ (AV.nilsl).isAt j:=fun q=>q
 simp only [IA,h1,h2,h3,h4,h5,if_false]
 unfold tA
 split<;>omega
theorem ZU {p mo:Int} {fs:List Fn} (hr:DH p mo fs=0) {k:Nat} {f:Fn} (hf:fs[k]? = some f) {args:List Int} (hargs:f.args=args.length) (m:Mem) (r:Row) (n:Nat) :
  ∃ s' v n',By fs (fs.map codeW) n ⟨[FW (codeW f) args],m,r,0⟩=some (s',v,n')∧n'≤n∧0≤s'.trap∧s'.trap≤7∧(s'.trap≠0→v=0)∧(s'.trap=1→n'=0):=by
 obtain ⟨hP,_⟩:=TD hr
 refine TJ hP n _ ⟨Int.le_refl _,by show (0:Int)≤7;omega,by show (0:Int)≠1;omega⟩ (fun _=>⟨_,[],rfl,?_,fun g hg=>by cases hg⟩)
 obtain ⟨J,hc⟩:=hP.code f (List.mem_of_getElem? hf)
 obtain ⟨P,hS,_⟩:=hc.seq
 have ha4:=hc.a4
 have ha:(codeW f).args=f.args:=rfl
 refine ⟨J,hc,Nat.zero_le _,?_,?_⟩
 ·show (args.take 26++List.replicate (26 - args.length) 0).length=26
  rw [List.length_append,List.length_take,List.length_replicate];omega
 ·show ((([]:List Int).length:Nat):Int)=jE (codeW f).l J 0
  have h00:(J 0).h=0:=by rw [hS.j0]
  rw [hS.alive (by omega),h00];rfl
theorem RN {la ca:AV} {L A:List Int} {F fu:Int} (hL:FzV 1 la L.length (L.flatMap i64c)) (hA:FzV 1 ca A.length (A.flatMap i64c)):call tb prim DN [la,.agg [.int .i64 F,ca,.int .i64 fu]] bar g=some (.bool true,g):=by
 refine Aa It (Ah rfl rfl (BP ?_))
 have eK:=fun g'=>QV (bar:=g.n) (g:=g')
 obtain ⟨h1,hh1⟩:∃ h1,h1=g.alloc (.cells [.int .i64 F,ca,.int .i64 fu] 0):=⟨_,rfl⟩
 have n1:h1.n=g.n+1:=by rw [hh1,AB]
 obtain ⟨p,m,fa,fs,eU,hfa,hG,hp0,hpm,hm6,hfl⟩:=Wr (bar:=g.n) (h:=h1) (hL.vw h1)
 obtain ⟨pg,hpg⟩:∃ pg:Nat,p=pg:=⟨p.toNat,by omega⟩
 subst hpg
 have hright:DH (pg:Int) m fs=0:=hG.right hp0 (by omega) (by omega)
 have hu:=UnitOk.of_right hright
 obtain ⟨h2,hh2⟩:∃ h2,h2=(h1.alloc (.cells [.int .i64 0,.int .i64 0,.nilsl] 0)).set h1.n (.cells [.int .i64 pg,.int .i64 m,fa] 0):=⟨_,rfl⟩
 have n2:h2.n=g.n+2:=by rw [hh2,AF,AB,n1]
 have gC2:h2.get g.n=some (.cells [.int .i64 F,ca,.int .i64 fu] 0):=by rw [hh2,AO (by omega),AA,if_neg (by omega),hh1,AA,if_pos rfl]
 have gU2:h2.get h1.n=some (.cells [.int .i64 pg,.int .i64 m,fa] 0):=by rw [hh2,AC,if_pos rfl]
 obtain ⟨k,f,aa,args,eA,hfk,haa,hal⟩:=YP (bar:=g.n) (g:=h2) hfa hfl (by have:=hG.1;omega) (hA.vw h2) pg m F fu
 have hkl:=(List.getElem?_eq_some_iff.mp hfk).1
 have hfk2:fs[k]=f:=(List.getElem?_eq_some_iff.mp hfk).2
 have hfind:BG f.name fs 0=(k:Int):=by rw [← hfk2];exact hG.find hkl
 have hfargs:f.args=args.length:=by
  have:=(hG.2.1 k hkl).2
  rw [hfk2] at this
  rw [hal];unfold QJ;omega
 obtain ⟨s1,v1,n1',r1,hn1,t0,t7,tv,tf⟩:=ZU hright hfk hfargs (Fk pg m) ⟨[],[]⟩ 2000
 obtain ⟨g2,M,g3,g5,xa,e2,e3,m3,m2,k2,k3,e5,hxa,m5,k5⟩:=Lz (bar:=g.n) (g:=h2) (nm:=f.name) (fuel:=2000) hu (hfa.vw h2) (by omega) (pages:=pg) (most:=m) (by omega) (by omega) (by omega) (by omega) hfind hfk hfargs (haa.vw h2) r1
 unfold Gr at e5
 obtain ⟨h6,hh6⟩:∃ h6,h6=(g5.alloc (.cells [.int .i64 0,.int .i64 0,.int .i64 0,.nilsl] 0)).set g5.n (.cells [.int .i64 v1,.int .i64 s1.trap,.int .i64 n1',xa] 0):=⟨_,rfl⟩
 have n6:h6.n=g5.n+1:=by rw [hh6,AF,AB]
 have gR6:h6.get g5.n=some (.cells [.int .i64 v1,.int .i64 s1.trap,.int .i64 n1',xa] 0):=by rw [hh6,AC,if_pos rfl]
 have k6:∀ j,j<h2.n→h6.get j=h2.get j:=fun j hj=>by rw [hh6,AO (by omega),AA,if_neg (by omega)];exact k5 j hj
 have gU6:h6.get h1.n=some (.cells [.int .i64 pg,.int .i64 m,fa] 0):=by rw [k6 _ (by omega)];exact gU2
 have gU22:g2.get h1.n=some (.cells [.int .i64 pg,.int .i64 m,fa] 0):=by rw [k2 _ (by omega)];exact gU2
 have gU3:g3.get h1.n=some (.cells [.int .i64 pg,.int .i64 m,fa] 0):=by rw [k3 _ (by omega)];exact gU22
 have hone:=hfa.one
 have hca1:=hA.one
 have haa1:=haa.one
 have hb1:g.n≤h1.n:=by omega
 have hb5:g.n≤g5.n:=by omega
 
 obtain ⟨sp,hsp⟩:∃ sp:Nat,sp=2000 - n1':=⟨_,rfl⟩
 have r2:By fs (fs.map codeW) sp ⟨[FW (codeW f) args],Fk pg m,⟨[],[]⟩,0⟩=some (s1,v1,0):=by
  by_cases c:s1.trap=1
  ·have:=tf c
   subst this
   rw [show sp=2000 by omega];exact r1
  ·have:=(Ly _ _ _ _ _ r1 c).2.1 0
   rw [Nat.add_zero,← hsp] at this
   exact this
 obtain ⟨ga,M',gb,gc,xb,e2',e3',m3',m2',k2',k3',e5',hxb,m5',k5'⟩:=Lz (bar:=g.n) (g:=h6) (nm:=f.name) (fuel:=sp) hu (hfa.vw h6) (by omega) (pages:=pg) (most:=m) (by omega) (by omega) (by omega) (by omega) hfind hfk hfargs (haa.vw h6) (by rw [Int.toNat_natCast];exact r2)
 unfold Gr at e5'
 obtain ⟨h7,hh7⟩:∃ h7,h7=(gc.alloc (.cells [.int .i64 0,.int .i64 0,.int .i64 0,.nilsl] 0)).set gc.n (.cells [.int .i64 v1,.int .i64 s1.trap,.int .i64 0,xb] 0):=⟨_,rfl⟩
 have n7:h7.n=gc.n+1:=by rw [hh7,AF,AB]
 have gS7:h7.get gc.n=some (.cells [.int .i64 v1,.int .i64 s1.trap,.int .i64 0,xb] 0):=by rw [hh7,AC,if_pos rfl]
 have k7:∀ j,j<h6.n→h7.get j=h6.get j:=fun j hj=>by rw [hh7,AO (by omega),AA,if_neg (by omega)];exact k5' j hj
 have gR7:h7.get g5.n=some (.cells [.int .i64 v1,.int .i64 s1.trap,.int .i64 n1',xa] 0):=by rw [k7 _ (by omega)];exact gR6
 have gU7:h7.get h1.n=some (.cells [.int .i64 pg,.int .i64 m,fa] 0):=by rw [k7 _ (by omega)];exact gU6
 have gUa:ga.get h1.n=some (.cells [.int .i64 pg,.int .i64 m,fa] 0):=by rw [k2' _ (by omega)];exact gU6
 have gUb:gb.get h1.n=some (.cells [.int .i64 pg,.int .i64 m,fa] 0):=by rw [k3' _ (by omega)];exact gUa
 have hbc:g.n≤gc.n:=by omega
 have hws:IntKind.i64.wrap (2000 - (n1':Int))=(sp:Int):=by rw [BU (by omega) (by omega)];omega
 have hgh:¬ g.n=h1.n:=by omega
 have gC1:h1.get g.n=some (.cells [.int .i64 F,ca,.int .i64 fu] 0):=by rw [hh1,AA,if_pos rfl]
 have q0:decide (s1.trap<0)=false:=by simp;omega
 have q7:decide (7<s1.trap)=false:=by simp;omega
 have qn':¬ 2000<n1':=by omega
 have qn:¬ (2000:Int)<(n1':Int):=by omega
 simp [f_engramlaw14_EngineFuel,AZ,go_sem,AA,AB,AC,AF,AD,AH,AE,AQ,a21,AR,AS,a51,AT,AU,AM,hca1]
 rw [← hh1]
 simp [go_sem,AA,AB,AC,AF,AD,AH,AE,AQ,a21,AR,AS,a51,AT,AU,AM,eU,AV.cells,hone,hb1,BX]
 rw [← hh2]
 simp [go_sem,AA,AB,AC,AF,AD,AH,AE,AQ,a21,AR,AS,a51,AT,AU,AM,hgh,gC1,eA]
 refine ⟨⟨Ak rfl ?_,Ak rfl ?_⟩,?_⟩
 ·simp [-getElem?_pos,Aw,Ao,Ai,Ac,Ad,List.take,List.take_succ_cons,List.take_zero,go_sem,AA,AB,AC,AF,AD,AH,AE,AQ,a21,AR,AS,a51,AT,AU,AM,gU2,gU22,gU3,e2,e3,List.getElem?_cons_zero,List.getElem?_cons_succ]
 ·simp [-getElem?_pos,Aw,Ao,Ai,Ac,Ad,List.take,List.take_succ_cons,List.take_zero,go_sem,AA,AB,AC,AF,AD,AH,AE,AQ,a21,AR,AS,a51,AT,AU,AM,gU2,gU22,gU3,e2,e3,List.getElem?_cons_zero,List.getElem?_cons_succ]
 simp [go_sem,AA,AB,AC,AF,AD,AH,AE,AQ,a21,AR,AS,a51,AT,AU,AM,gU2,e2,e3,e5,AV.cells,hxa,Hs,hb5]
 rw [← hh6]
 have qn0:decide ((n1':Int)<0)=false:=by simp
 have hgg:¬ g5.n=gc.n:=by omega
 have gRc:gc.get g5.n=some (.cells [.int .i64 v1,.int .i64 s1.trap,.int .i64 n1',xa] 0):=by rw [k5' _ (by omega)];exact gR6
 have hgo:∀ Q2:Prop,(s1.trap=0→Q2)→(s1.trap≠0→Q2)→Q2:=fun Q2 a b=>by
  by_cases c:s1.trap=0
  ·exact a c
  ·exact b c
 refine hgo _ (fun c0=>?_) (fun c0=>?_)
 ·have c1:s1.trap≠1:=by omega
  simp [go_sem,AA,AB,AC,AF,AD,AH,AE,AQ,a21,AR,AS,a51,AT,AU,AM,gR6,q0,q7,qn0,qn,qn',c0,hws]
  refine ⟨⟨Ak rfl ?_,Ak rfl ?_⟩,?_⟩
  ·simp [-getElem?_pos,Aw,Ao,Ai,Ac,Ad,List.take,List.take_succ_cons,List.take_zero,go_sem,AA,AB,AC,AF,AD,AH,AE,AQ,a21,AR,AS,a51,AT,AU,AM,gU6,gUa,gUb,e2',e3',List.getElem?_cons_zero,List.getElem?_cons_succ]
  ·simp [-getElem?_pos,Aw,Ao,Ai,Ac,Ad,List.take,List.take_succ_cons,List.take_zero,go_sem,AA,AB,AC,AF,AD,AH,AE,AQ,a21,AR,AS,a51,AT,AU,AM,gU6,gUa,gUb,e2',e3',List.getElem?_cons_zero,List.getElem?_cons_succ]
  simp [go_sem,AA,AB,AC,AF,AD,AH,AE,AQ,a21,AR,AS,a51,AT,AU,AM,gU6,e2',e3',e5',AV.cells,hxb,Hs,hbc,hgg,gRc]
  rw [← hh7]
  by_cases cs:sp=0
  ·have hs0:((sp:Int) == 0)=true:=by simp;omega
   have hs00:(sp == 0)=true:=by simp;omega
   simp [go_sem,AA,AB,AC,AF,AD,AH,AE,AQ,a21,AR,AS,a51,AT,AU,AM,hs0,hs00,eK]
   simp [go_sem,AY,AX,AG,AK,AJ,AI,AV.free.freeL,AV.free,AL,AN]
  ·skip
   obtain ⟨s3,r3,t3⟩:=(Ly _ _ _ _ _ r1 c1).2.2 (sp - 1) (by omega)
   obtain ⟨gd,M2,ge,gf,xc,e2'',e3'',m3'',m2'',k2'',k3'',e5'',hxc,m5'',k5''⟩:=Lz (bar:=g.n) (g:=h7) (nm:=f.name) (fuel:=((sp - 1:Nat):Int)) hu (hfa.vw h7) (by omega) (pages:=pg) (most:=m) (by omega) (by omega) (by omega) (by omega) hfind hfk hfargs (haa.vw h7) (by rw [Int.toNat_natCast];exact r3)
   unfold Gr at e5''
   rw [t3] at e5''
   have gUd:gd.get h1.n=some (.cells [.int .i64 pg,.int .i64 m,fa] 0):=by rw [k2'' _ (by omega)];exact gU7
   have gUe:ge.get h1.n=some (.cells [.int .i64 pg,.int .i64 m,fa] 0):=by rw [k3'' _ (by omega)];exact gUd
   have hbf:g.n≤gf.n:=by omega
   have hw1:IntKind.i64.wrap ((sp:Int) - 1)=((sp - 1:Nat):Int):=by rw [BU (by omega) (by omega)];omega
   have hs0:((sp:Int) == 0)=false:=by simp;omega
   have hs00:(sp == 0)=false:=by simp;omega
   simp [go_sem,AA,AB,AC,AF,AD,AH,AE,AQ,a21,AR,AS,a51,AT,AU,AM,hs0,hs00,gR7,c0,c0]
   refine ⟨⟨Ak rfl ?_,Ak rfl ?_⟩,?_⟩
   ·simp [-getElem?_pos,Aw,Ao,Ai,Ac,Ad,List.take,List.take_succ_cons,List.take_zero,go_sem,AA,AB,AC,AF,AD,AH,AE,AQ,a21,AR,AS,a51,AT,AU,AM,gU7,gUd,gUe,e2'',e3'',hw1,List.getElem?_cons_zero,List.getElem?_cons_succ]
   ·simp [-getElem?_pos,Aw,Ao,Ai,Ac,Ad,List.take,List.take_succ_cons,List.take_zero,go_sem,AA,AB,AC,AF,AD,AH,AE,AQ,a21,AR,AS,a51,AT,AU,AM,gU7,gUd,gUe,e2'',e3'',hw1,List.getElem?_cons_zero,List.getElem?_cons_succ]
   simp [go_sem,AA,AB,AC,AF,AD,AH,AE,AQ,a21,AR,AS,a51,AT,AU,AM,gU7,e2'',e3'',hw1,e5'',AV.cells,hxc,Hs,hbf,eK]
   simp [go_sem,AY,AX,AG,AK,AJ,AI,AV.free.freeL,AV.free,AL,AN]
 ·have cb:(s1.trap != 0)=true:=by simpa using c0
  have cv:=tv c0
  have hh7':=hh7
  rw [cv] at hh7'
  simp [go_sem,AA,AB,AC,AF,AD,AH,AE,AQ,a21,AR,AS,a51,AT,AU,AM,gR6,q0,q7,qn0,qn,qn',cb,cv,hws]
  refine ⟨⟨Ak rfl ?_,Ak rfl ?_⟩,?_⟩
  ·simp [-getElem?_pos,Aw,Ao,Ai,Ac,Ad,List.take,List.take_succ_cons,List.take_zero,go_sem,AA,AB,AC,AF,AD,AH,AE,AQ,a21,AR,AS,a51,AT,AU,AM,gU6,gUa,gUb,e2',e3',List.getElem?_cons_zero,List.getElem?_cons_succ]
  ·simp [-getElem?_pos,Aw,Ao,Ai,Ac,Ad,List.take,List.take_succ_cons,List.take_zero,go_sem,AA,AB,AC,AF,AD,AH,AE,AQ,a21,AR,AS,a51,AT,AU,AM,gU6,gUa,gUb,e2',e3',List.getElem?_cons_zero,List.getElem?_cons_succ]
  simp [go_sem,AA,AB,AC,AF,AD,AH,AE,AQ,a21,AR,AS,a51,AT,AU,AM,gU6,e2',e3',e5',AV.cells,hxb,Hs,hbc,hgg,gRc,cv]
  rw [← hh7']
  by_cases cs:sp=0
  ·have hs0:((sp:Int) == 0)=true:=by simp;omega
   have hs00:(sp == 0)=true:=by simp;omega
   simp [go_sem,AA,AB,AC,AF,AD,AH,AE,AQ,a21,AR,AS,a51,AT,AU,AM,hs0,hs00,eK]
   simp [go_sem,AY,AX,AG,AK,AJ,AI,AV.free.freeL,AV.free,AL,AN]
  ·by_cases c1:s1.trap=1
   ·have hs0:((sp:Int) == 0)=false:=by simp;omega
    have hs00:(sp == 0)=false:=by simp;omega
    simp [go_sem,AA,AB,AC,AF,AD,AH,AE,AQ,a21,AR,AS,a51,AT,AU,AM,hs0,hs00,gR7,c1,eK]
    simp [go_sem,AY,AX,AG,AK,AJ,AI,AV.free.freeL,AV.free,AL,AN]
   ·have c1b:(s1.trap == 1)=false:=by simpa using c1
    obtain ⟨s3,r3,t3⟩:=(Ly _ _ _ _ _ r1 c1).2.2 (sp - 1) (by omega)
    obtain ⟨gd,M2,ge,gf,xc,e2'',e3'',m3'',m2'',k2'',k3'',e5'',hxc,m5'',k5''⟩:=Lz (bar:=g.n) (g:=h7) (nm:=f.name) (fuel:=((sp - 1:Nat):Int)) hu (hfa.vw h7) (by omega) (pages:=pg) (most:=m) (by omega) (by omega) (by omega) (by omega) hfind hfk hfargs (haa.vw h7) (by rw [Int.toNat_natCast];exact r3)
    unfold Gr at e5''
    rw [t3] at e5''
    have gUd:gd.get h1.n=some (.cells [.int .i64 pg,.int .i64 m,fa] 0):=by rw [k2'' _ (by omega)];exact gU7
    have gUe:ge.get h1.n=some (.cells [.int .i64 pg,.int .i64 m,fa] 0):=by rw [k3'' _ (by omega)];exact gUd
    have hbf:g.n≤gf.n:=by omega
    have hw1:IntKind.i64.wrap ((sp:Int) - 1)=((sp - 1:Nat):Int):=by rw [BU (by omega) (by omega)];omega
    have hs0:((sp:Int) == 0)=false:=by simp;omega
    have hs00:(sp == 0)=false:=by simp;omega
    simp [go_sem,AA,AB,AC,AF,AD,AH,AE,AQ,a21,AR,AS,a51,AT,AU,AM,hs0,hs00,gR7,c1b,c1b]
    refine ⟨⟨Ak rfl ?_,Ak rfl ?_⟩,?_⟩
    ·simp [-getElem?_pos,Aw,Ao,Ai,Ac,Ad,List.take,List.take_succ_cons,List.take_zero,go_sem,AA,AB,AC,AF,AD,AH,AE,AQ,a21,AR,AS,a51,AT,AU,AM,gU7,gUd,gUe,e2'',e3'',hw1,List.getElem?_cons_zero,List.getElem?_cons_succ]
    ·simp [-getElem?_pos,Aw,Ao,Ai,Ac,Ad,List.take,List.take_succ_cons,List.take_zero,go_sem,AA,AB,AC,AF,AD,AH,AE,AQ,a21,AR,AS,a51,AT,AU,AM,gU7,gUd,gUe,e2'',e3'',hw1,List.getElem?_cons_zero,List.getElem?_cons_succ]
    simp [go_sem,AA,AB,AC,AF,AD,AH,AE,AQ,a21,AR,AS,a51,AT,AU,AM,gU7,e2'',e3'',hw1,e5'',AV.cells,hxc,Hs,hbf,eK]
    simp [go_sem,AY,AX,AG,AK,AJ,AI,AV.free.freeL,AV.free,AL,AN]
end
end Go.Ev
