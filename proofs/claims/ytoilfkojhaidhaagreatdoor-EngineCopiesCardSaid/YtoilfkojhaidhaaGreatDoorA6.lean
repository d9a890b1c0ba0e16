/- Part 6 of the proof that a law of this seat (the one that GOCLAIM.json names) returns true for every argument; nothing is assumed. -/
import Derived.Test.YtoilfkojhaidhaaGreatDoorA5
set_option linter.unusedSimpArgs false
set_option linter.unusedVariables false
set_option linter.all false
set_option linter.unusedSectionVars false
namespace Go.Ev
open Go
def Df (l:List Int):List AV:=l.map (AV.int .u8)
def Kr (l:List Bool):List AV:=l.map AV.bool
structure MemV (g:H) (b:Nat) (M:Nat) (m:Mem) (ba da:AV):Prop where
 get:g.get M=some (.cells [ba,.int .i64 m.most,da] 0)
 bM:b≤M
 lt:M<g.n
 ob:OW 1 g b ba m.b.length (Df m.b)
 od:OW 1 g b da m.dirty.length (Kr m.dirty)
 nb:¬ ba.isAt M
 nd:¬ da.isAt M
 ap:ba.apart da
 sz:m.b.length=64*m.dirty.length
 m0:0≤m.most∧m.most≤64
 m1:(m.dirty.length:Int)≤m.most
 rng:∀ x ∈ m.b,0≤x∧x<256
theorem MemV.mono {g g':H} {b M:Nat} {m:Mem} {ba da:AV} (v:MemV g b M m ba da) (hn:g.n≤g'.n) (h0:g'.get M=g.get M) (h1:∀ j,ba.isAt j→g'.get j=g.get j) (h2:∀ j,da.isAt j→g'.get j=g.get j):MemV g' b M m ba da :=
 ⟨by rw [h0];exact v.get,v.bM,by have:=v.lt;omega,v.ob.mono hn h1,v.od.mono hn h2,v.nb,v.nd,v.ap,v.sz,v.m0,v.m1,v.rng⟩
section
variable {bar b M:Nat} {g:H} {m:Mem} {ba da:AV}
theorem TZ (v:MemV g b M m ba da):call tb prim CY [.ptr M 0] bar g=some (.int .i64 m.dirty.length,g):=by
 refine AQ LW (AZ rfl rfl (BJ ?_))
 have hg:=v.get
 have hl:=v.od.len
 simp [f_cells_Memory_Pages,AO,go_sem,AB,AN,AM,AA,AE,AD,AC,AV.free.freeL,AV.free,AF,AH,AG,hg,hl]
theorem KU (v:MemV g b M m ba da) (at':Int) (w:Bool):call tb prim Bj [.ptr M 0,.int .i64 at',.bool w] bar g=some (.tup [.int .i64 (Er w),.bool (Ee m at' w)],g):=by
 refine AQ Km (AZ rfl rfl (BJ ?_))
 have hg:=v.get
 have hl:=v.ob.len
 have hsz:m.b.length≤4096:=by have:=v.sz;have:=v.m0;have:=v.m1;omega
 have w1:IntKind.i64.wrap ((m.b.length:Int) - 1)=(m.b.length:Int) - 1:=BN (by omega) (by omega)
 have w8:IntKind.i64.wrap ((m.b.length:Int) - 8)=(m.b.length:Int) - 8:=BN (by omega) (by omega)
 by_cases h0:0≤at'
 ·cases w<;>simp [f_cells_Memory_within,AO,go_sem,AB,AG,hg,hl,h0,As,w1,w8,Er,Ee]<;>simp [go_sem,AN,AM,AA,AE,AD,AC,AV.free.freeL,AV.free,AF,AH]
 ·cases w<;>simp [f_cells_Memory_within,AO,go_sem,AB,AG,hg,hl,h0,As,w1,w8,Er,Ee]<;>simp [go_sem,AN,AM,AA,AE,AD,AC,AV.free.freeL,AV.free,AF,AH]
end
theorem Uj:∀ (l:List Int) (k:Nat),l.length≤k→(∀ x ∈ l,0≤x∧x<256)→0≤KK l∧KK l<256 ^ k
 | [],k,_,_=>by
  have:(0:Int)<256 ^ k:=Int.pow_pos (by omega)
  simp only [KK];omega
 | x::r,0,h,_=>by simp at h
 | x::r,k+1,hk,h=>by
  have h1:=h x (List.mem_cons_self ..)
  have h2:=Uj r k (by simpa using hk) fun y hy=>h y (List.mem_cons_of_mem _ hy)
  simp only [KK,Int.pow_succ]
  omega
theorem fD {x y:Int} (hx:0≤x) (hx2:x<72057594037927936) (hy:0≤y) (hy2:y<256):IntKind.u64.wrap (((BitVec.ofInt 64 (x*256) ||| BitVec.ofInt 64 y).toNat:Nat):Int)=x*256+y:=by
 obtain ⟨x,rfl⟩:=Int.eq_ofNat_of_zero_le hx
 obtain ⟨y,rfl⟩:=Int.eq_ofNat_of_zero_le hy
 rw [BitVec.toNat_or,BitVec.toNat_ofInt,BitVec.toNat_ofInt]
 have e1:(((x:Int)*256) % ((2 ^ 64:Nat):Int)).toNat=x*256:=by omega
 have e2:((y:Int) % ((2 ^ 64:Nat):Int)).toNat=y:=by omega
 rw [e1,e2]
 have e3:x*256 ||| y=x*256+y:=by
  have:=Nat.shiftLeft_add_eq_or_of_lt (b:=y) (i:=8) (by omega) x
  rw [Nat.shiftLeft_eq] at this
  exact this.symm
 rw [e3,OX (by omega) (by omega)]
 omega
section
variable {bar b M:Nat} {g:H} {m:Mem} {ba da:AV}
theorem Wn (v:MemV g b M m ba da) (p n:Nat) (hn:n≤8) (hp:p+n≤m.b.length) (Q:Ex→Env→H→Prop) (hq:∀ e,e.get 10=some (.int .u64 (KK ((m.b.drop p).take n)))→Q (.exit 0) e g):∀ j:Nat,j≤n →
  CW (call tb prim) bar [0,1,10,11] ET [(0,.ptr M 0),(1,.int .i64 p),(10,.int .u64 (KK ((m.b.drop (p+j)).take (n - j)))),(11,.int .i64 ((j:Int) - 1))] g Q:=by
 intro j
 induction j with
 | zero =>
  intro _
  refine Ad ET.eq_1 ?_
  simp [go_sem]
  exact hq _ rfl
 | succ j ih =>
  intro hj
  refine Ad ET.eq_1 ?_
  have hg:=v.get
  have hsz:m.b.length≤4096:=by have:=v.sz;have:=v.m0;have:=v.m1;omega
  have hlt:p+j<m.b.length:=by omega
  obtain ⟨id,all,full,rfl,_,_,hgs,_,_,_,hgi,_,_⟩:=v.ob.cases (by omega)
  have hx:all[p+j]? = some (.int .u8 m.b[p+j]):=by rw [hgi _ (by omega)];simp [Df,hlt]
  have hr:=v.rng m.b[p+j] (List.getElem_mem _)
  have hw1:IntKind.i64.wrap ((p:Int)+(j:Int))=(p:Int)+(j:Int):=BN (by omega) (by omega)
  have hix:AJ (.int .i64 ((p:Int)+(j:Int))) m.b.length=some (p+j):=by
   have c1:0≤(p:Int)+(j:Int)∧(p:Int)+(j:Int)<(m.b.length:Int):=by omega
   have c2:((p:Int)+(j:Int)).toNat=p+j:=by omega
   simp only [AJ];rw [if_pos c1,c2]
  have hw2:IntKind.i64.wrap ((j:Int) - 1)=(j:Int) - 1:=BN (by omega) (by omega)
  have hrl:∀ x ∈ (m.b.drop (p+(j+1))).take (n - (j+1)),0≤x∧x<256:=fun x hx=>v.rng x (List.mem_of_mem_drop (List.mem_of_mem_take hx))
  obtain ⟨r0,r1⟩:=Uj _ 7 (by rw [List.length_take];omega) hrl
  have h7:(256:Int) ^ 7=72057594037927936:=by decide
  rw [h7] at r1
  have hnext:KK ((m.b.drop (p+j)).take (n - j))=KK ((m.b.drop (p+(j+1))).take (n - (j+1)))*256+m.b[p+j]:=by
   rw [List.drop_eq_getElem_cons hlt,show n - j=(n - (j+1))+1 by omega,List.take_succ_cons]
   simp only [KK]
   rw [show p+(j+1)=p+j+1 by omega]
   omega
  obtain ⟨acc,hacc⟩:∃ acc,acc=KK ((m.b.drop (p+(j+1))).take (n - (j+1))):=⟨_,rfl⟩
  rw [← hacc] at r0 r1 hnext ⊢
  have hsh:IntKind.u64.wrap (acc*256)=acc*256:=OX (by omega) (by omega)
  have hu:IntKind.u64.wrap m.b[p+j]=m.b[p+j]:=OX (by omega) (by omega)
  have hor:=fD r0 (by omega) hr.1 hr.2
  have hgo:=ih (by omega)
  rw [hnext] at hgo
  have hjj:((j+1:Nat):Int) - 1=(j:Int):=by omega
  rw [hjj]
  have hc:(0:Int)≤(j:Int):=by omega
  simp [go_sem,AB,AG,hg,hc,hw1,hix,hgs,hx,hu,HA,hsh,hw2]
  rw [← hor] at hgo
  exact hgo
theorem Zn (v:MemV g b M m ba da) (at':Int) (w:Bool):call tb prim Dh [.ptr M 0,.int .i64 at',.bool w] bar g=some (.tup [.int .i64 (Ix m at' w).1,.bool (Ix m at' w).2],g):=by
 refine AQ MW (AZ rfl rfl (BJ ?_))
 have hwi:=KU (bar:=g.n) v at' w
 have hsz:m.b.length≤4096:=by have:=v.sz;have:=v.m0;have:=v.m1;omega
 unfold Ix
 by_cases hc:Ee m at' w=true
 ·rw [hc] at hwi
  simp only [Ee,Bool.and_eq_true,decide_eq_true_eq] at hc
  have hn:Er w=1∨Er w=8:=by cases w<;>simp [Er]
  obtain ⟨p,rfl⟩:=Int.eq_ofNat_of_zero_le hc.1
  obtain ⟨n,hn2⟩:∃ n:Nat,Er w=(n:Int):=⟨(Er w).toNat,by omega⟩
  rw [hn2] at hwi hc hn
  have hw1:IntKind.i64.wrap ((n:Int) - 1)=(n:Int) - 1:=BN (by omega) (by omega)
  have htrue:Ee m (p:Int) w=true:=by simp [Ee,hn2];omega
  rw [htrue]
  simp only [if_true,hn2,Int.toNat_natCast]
  simp [f_cells_Memory_Load,AO,go_sem,AB,hwi,hw1]
  have h0:KK ((m.b.drop (p+n)).take (n - n))=0:=by simp [KK]
  rw [← h0]
  refine Wn (bar:=g.n) v p n (by omega) (by omega) _ (fun e he=>?_) n (Nat.le_refl _)
  simp [go_sem,AN,AM,AA,AE,AD,AC,AV.free.freeL,AV.free,AF,AH,he,wI]
 ·have hcf:Ee m at' w=false:=by simpa using hc
  rw [hcf] at hwi ⊢
  simp [f_cells_Memory_Load,AO,go_sem,AB,AN,AM,AA,AE,AD,AC,AV.free.freeL,AV.free,AF,AH,hwi]
end
end Go.Ev
set_option linter.unusedSectionVars false
namespace Go.Ev
open Go
def RA (b:List Int):Nat→List Int→List Int
 | _,[]=>b
 | p,v::r=>RA (b.set p v) (p+1) r
theorem Uo:∀ (l:List Int) (b:List Int) (p:Nat),p+l.length≤b.length→RA b p l=Tc b p l
 | [],b,p,h=>by simp [RA,Tc]
 | v::r,b,p,h=>by
  simp only [List.length_cons] at h
  simp only [RA]
  rw [Uo r _ _ (by simp;omega)]
  unfold Tc
  have e1:(b.set p v).take (p+1)=b.take p++[v]:=by
   rw [List.set_eq_take_append_cons_drop,if_pos (by omega),List.take_append,List.take_take]
   simp [show min (p+1) p=p by omega,show p+1 - p=1 by omega,show min p b.length=p by omega]
  have e2:(b.set p v).drop (p+1+r.length)=b.drop (p+(v::r).length):=by
   rw [List.drop_set_of_lt (by omega)];simp only [List.length_cons];congr 1;omega
  rw [e1,e2];simp
theorem Ui:∀ (k:Nat) (n:Int),(TM k n).length=k
 | 0,_=>rfl
 | k+1,n=>by simp [TM,Ui k]
theorem QT {A:Type} {c:A→AV} (l:List A) (i:Nat) (x:A) (hi:i<l.length):AL (l.map c) i [c x]=(l.set i x).map c:=by
 unfold AL
 rw [List.map_set,List.set_eq_take_append_cons_drop,if_pos (by simpa using hi)]
 simp
theorem eV (x:Int):IntKind.u8.wrap x=x % 256:=by
 show IntKind.wrap .u8 x=_
 simp [IntKind.wrap,IntKind.signed,IntKind.bits]
section
variable {bar b M:Nat} {g:H} {m:Mem} {ba da:AV}
theorem MemV.put (v:MemV g b M m ba da) {p:Nat} {x:Int} (hp:p<m.b.length) (hx:0≤x∧x<256):∃ id all full,ba=.sl id 0 1 m.b.length full∧b≤id∧g.get id=some (.cells all 0)∧p+1≤all.length∧id≠M∧¬ da.isAt id ∧
  MemV (g.set id (.cells (AL all p [.int .u8 x]) 0)) b M ⟨m.b.set p x,m.most,m.dirty⟩ ba da:=by
 have hos:=v.ob
 obtain ⟨id,all,full,e,hb,hl,hgs,hle,_,_,_,hset,_⟩:=hos.cases (by omega)
 refine ⟨id,all,full,e,hb,hgs,by omega,fun q=>v.nb (by rw [e];exact q),fun q=>v.ap id (by rw [e];rfl) q,?_⟩
 have hidM:M≠id:=fun q=>v.nb (by rw [e];exact q.symm)
 refine ⟨by rw [AI hidM];exact v.get,v.bM,v.lt,?_,v.od.mono (Nat.le_refl _) (fun j hj=>AI (fun q=>v.ap id (by rw [e];rfl) (q ▸ hj))),v.nb,v.nd,v.ap,by simpa using v.sz,v.m0,v.m1,fun y hy=>?_⟩
 ·have:=hset (g.set id (.cells (AL all p [.int .u8 x]) 0)) p [.int .u8 x] (by simp;omega) rfl (Nat.le_refl _) (by rw [AU,if_pos rfl])
  rw [show AL (Df m.b) p [AV.int .u8 x]=Df (m.b.set p x) from QT m.b p x hp] at this
  simpa using this
 ·rcases List.mem_or_eq_of_mem_set hy with hy | rfl
  ·exact v.rng y hy
  ·exact hx
theorem MemV.mark (v:MemV g b M m ba da) {p:Nat} (hp:p<m.dirty.length):∃ id all full,da=.sl id 0 1 m.dirty.length full∧b≤id∧g.get id=some (.cells all 0)∧p+1≤all.length∧id≠M∧¬ ba.isAt id ∧
  MemV (g.set id (.cells (AL all p [.bool true]) 0)) b M ⟨m.b,m.most,m.dirty.set p true⟩ ba da:=by
 have hos:=v.od
 obtain ⟨id,all,full,e,hb,hl,hgs,hle,_,_,_,hset,_⟩:=hos.cases (by omega)
 refine ⟨id,all,full,e,hb,hgs,by omega,fun q=>v.nd (by rw [e];exact q),fun q=>v.ap id q (by rw [e];rfl),?_⟩
 have hidM:M≠id:=fun q=>v.nd (by rw [e];exact q.symm)
 refine ⟨by rw [AI hidM];exact v.get,v.bM,v.lt,v.ob.mono (Nat.le_refl _) (fun j hj=>AI (fun q=>v.ap j hj (by rw [e,q];rfl))),?_,v.nb,v.nd,v.ap,by simpa using v.sz,v.m0,by simpa using v.m1,v.rng⟩
 have:=hset (g.set id (.cells (AL all p [.bool true]) 0)) p [.bool true] (by simp;omega) rfl (Nat.le_refl _) (by rw [AU,if_pos rfl])
 rw [show AL (Kr m.dirty) p [AV.bool true]=Kr (m.dirty.set p true) from QT m.dirty p true hp] at this
 simpa using this
def Pc (g g':H) (ba da:AV):Prop:=g'.n=g.n∧∀ j,¬ ba.isAt j→¬ da.isAt j→g'.get j=g.get j
theorem Vy (hb:bar≤b) (val:Int) (p n:Nat) (hn:n≤8) (g0:H) (Q:Ex→Env→H→Prop):∀ (k i:Nat) (g:H) (m:Mem) (nv:Int),n=i+k→p+n≤m.b.length→nv=val / 256 ^ i→MemV g b M m ba da→Pc g0 g ba da →
  (∀ e g',MemV g' b M ⟨RA m.b (p+i) (TM k nv),m.most,Pw m.dirty (p+i) k⟩ ba da→Pc g0 g' ba da→Q (.exit 0) e g') →
  CW (call tb prim) bar [0,1,2,22,23] EF [(0,.ptr M 0),(1,.int .i64 p),(2,.int .i64 val),(22,.int .i64 n),(23,.int .i64 i)] g Q:=by
 intro k
 induction k with
 | zero =>
  intro i g m nv hk hp hnv v hk0 hq
  refine Ad EF.eq_1 ?_
  have c:¬ (i:Int)<(n:Int):=by omega
  simp [go_sem,c]
  exact hq _ g v hk0
 | succ k ih =>
  intro i g m nv hk hp hnv v hk0 hq
  refine Ad EF.eq_1 ?_
  have hsz:m.b.length≤4096:=by have:=v.sz;have:=v.m0;have:=v.m1;omega
  have hlt:p+i<m.b.length:=by omega
  have hdl:(p+i) / 64<m.dirty.length:=by have:=v.sz;omega
  have c:(i:Int)<(n:Int):=by omega
  have hg:=v.get
  have hw1:IntKind.i64.wrap ((p:Int)+(i:Int))=((p+i:Nat):Int):=by rw [BN (by omega) (by omega)];omega
  have hw8:IntKind.i64.wrap (8*(i:Int))=((8*i:Nat):Int):=by rw [BN (by omega) (by omega)];omega
  have hwn:IntKind.i64.wrap ((i:Int)+1)=((i+1:Nat):Int):=BF (by omega)
  have hsh:HA .shr .i64 val ((8*i:Nat):Int)=some (.int .i64 nv):=by
   have c0:¬ ((8*i:Nat):Int)<0:=by omega
   simp only [HA]
   rw [if_neg c0]
   have:min (((8*i:Nat):Int).toNat) IntKind.i64.bits=8*i:=by show min _ 64=_;omega
   rw [this,Int.fdiv_eq_ediv_of_nonneg _ (Int.pow_nonneg (by omega)),hnv]
   have:(2:Int) ^ (8*i)=256 ^ i:=by rw [Int.pow_mul];rfl
   rw [this]
  have hsh':HA .shr .i64 val (8*(i:Int))=some (.int .i64 nv):=by rw [← hsh];congr 1
  have hu8:IntKind.u8.wrap nv=nv % 256:=eV nv
  obtain ⟨id,all,full,e1,hbi,hgs,hal,hidM,hidd,v1⟩:=v.put (p:=p+i) (x:=nv % 256) hlt (by omega)
  obtain ⟨id2,all2,full2,e2,hbi2,hgs2,hal2,hidM2,hidb2,v2⟩:=v1.mark (p:=(p+i) / 64) hdl
  simp only at e2 v2
  have hix:AJ (.int .i64 ((p+i:Nat):Int)) m.b.length=some (p+i):=by
   simp only [AJ];rw [if_pos (by omega),Int.toNat_natCast]
  have hq64:IntKind.i64.wrap (((p+i:Nat):Int) / 64)=((p+i:Nat):Int) / 64:=BN (by omega) (by omega)
  have hix2:AJ (.int .i64 (((p+i:Nat):Int) / 64)) m.dirty.length=some ((p+i) / 64):=by
   have:(((p+i:Nat):Int) / 64).toNat=(p+i) / 64:=by omega
   simp only [AJ];rw [if_pos (by omega),this]
  have hne2:¬ id2=id:=fun q=>hidb2 (by rw [e1,q];rfl)
  have hgs3:g.get id2=some (.cells all2 0):=by rw [← hgs2,AI hne2]
  have hbid:bar≤id:=Nat.le_trans hb hbi
  have hbid2:bar≤id2:=Nat.le_trans hb hbi2
  have hMid:¬ M=id:=fun q=>hidM q.symm
  have hkeep:Pc g0 ((g.set id (.cells (AL all (p+i) [.int .u8 (nv % 256)]) 0)).set id2 (.cells (AL all2 ((p+i) / 64) [.bool true]) 0)) ba da:=by
   refine ⟨by simp only [AW];exact hk0.1,fun j h1 h2=>?_⟩
   rw [AI (fun q=>h2 (by rw [e2,q];rfl)),AI (fun q=>h1 (by rw [e1,q];rfl))]
   exact hk0.2 j h1 h2
  have hgo:=ih (i+1) _ ⟨m.b.set (p+i) (nv % 256),m.most,m.dirty.set ((p+i) / 64) true⟩ (nv / 256) (by omega) (by simp;omega) (by rw [hnv,Int.ediv_ediv_of_nonneg (Int.pow_nonneg (by omega)),← Int.pow_succ]) v2 hkeep (fun e g' h1 h2=>hq e g' (by
   rw [show p+i+1=p+(i+1) by omega] at *
   simpa [RA,TM,Pw,Nat.add_assoc] using h1) h2)
  obtain ⟨P,hP⟩:∃ P,P=p+i:=⟨_,rfl⟩
  rw [← hP] at hw1 hix hq64 hix2 hal hgs2 hal2 hgo
  subst e1 e2
  have hd64:¬ (64:Int)=0:=by omega
  simp [go_sem,AB,c,AG,hg,hw1,hw8,hsh',hu8,hix,hgs,hbid,hal,hMid,hq64,hix2,hgs3,hne2,hbid2,hal2,hwn,Yy]
  exact hgo
theorem Yk (v:MemV g b M m ba da) (hb:bar≤b) (at' n:Int) (w:Bool):∃ g',call tb prim DH [.ptr M 0,.int .i64 at',.int .i64 n,.bool w] bar g=some (.bool (IF m at' n w).2,g')∧MemV g' b M (IF m at' n w).1 ba da∧Pc g g' ba da:=by
 have hwi:=fun g':H=>KU (bar:=bar) v at' w
 have hsz:m.b.length≤4096:=by have:=v.sz;have:=v.m0;have:=v.m1;omega
 unfold IF
 by_cases hc:Ee m at' w=true
 ·have hc0:=hc
  rw [hc]
  simp only [Ee,Bool.and_eq_true,decide_eq_true_eq] at hc
  have hn:Er w=1∨Er w=8:=by cases w<;>simp [Er]
  obtain ⟨p,rfl⟩:=Int.eq_ofNat_of_zero_le hc.1
  obtain ⟨k,hk2⟩:∃ k:Nat,Er w=(k:Int):=⟨(Er w).toNat,by omega⟩
  rw [hk2] at hc hn
  simp only [if_true,hk2,Int.toNat_natCast]
  have hwi':call tb prim Bj [.ptr M 0,.int .i64 (p:Int),.bool w] bar g=some (.tup [.int .i64 k,.bool true],g):=by rw [KU v,hc0,hk2]
  obtain ⟨r,g',hcall,rfl,h1,h2⟩:=Aj (o:=call tb prim) (F:=f_cells_Memory_Store) (bar:=bar) (h:=g) (args:=[.ptr M 0,.int .i64 (p:Int),.int .i64 n,.bool w]) (P:=fun r g'=>r=.bool true∧MemV g' b M ⟨Tc m.b p (TM k n),m.most,Pw m.dirty p k⟩ ba da∧Pc g g' ba da) rfl rfl (fun K hK=>by
   simp [f_cells_Memory_Store,AO,go_sem,AB,hwi']
   refine Vy hb n p k (by omega) g _ k 0 g m n (by omega) (by omega) (by simp) v ⟨rfl,fun _ _ _=>rfl⟩ (fun e g' h1 h2=>?_)
   rw [Nat.add_zero,Uo _ _ _ (by rw [Ui];omega)] at h1
   simp [go_sem,AN,AM,AA,AE,AD,AC,AV.free.freeL,AV.free,AF,AH]
   exact ⟨_,_,⟨rfl,rfl⟩,hK _ _ ⟨rfl,h1,h2⟩⟩)
  exact ⟨g',AQ HX hcall,h1,h2⟩
 ·have hcf:Ee m at' w=false:=by simpa using hc
  rw [hcf]
  have hwi':call tb prim Bj [.ptr M 0,.int .i64 at',.bool w] bar g=some (.tup [.int .i64 (Er w),.bool false],g):=by rw [KU v,hcf]
  obtain ⟨r,g',hcall,rfl,rfl⟩:=Aj (o:=call tb prim) (F:=f_cells_Memory_Store) (bar:=bar) (h:=g) (args:=[.ptr M 0,.int .i64 at',.int .i64 n,.bool w]) (P:=fun r g'=>r=.bool false∧g'=g) rfl rfl (fun K hK=>by
   simp [f_cells_Memory_Store,AO,go_sem,AB,hwi']
   simp [go_sem,AN,AM,AA,AE,AD,AC,AV.free.freeL,AV.free,AF,AH]
   exact ⟨_,_,⟨rfl,rfl⟩,hK _ _ ⟨rfl,rfl⟩⟩)
  exact ⟨_,AQ HX hcall,v,⟨rfl,fun _ _ _=>rfl⟩⟩
end
end Go.Ev
set_option linter.unusedSectionVars false
namespace Go.Ev
open Go
theorem Hb {k:Nat} {h:H} {a:AV} {n:Nat} {cs:List AV} (v:Vw k h a n cs):source k h a=some (n,cs):=by
 obtain ⟨h1,h2,⟨rfl,rfl⟩ | ⟨full,rfl⟩ | ⟨id,off,full,all,p,rfl,e2,e3,e4,e5⟩⟩:=v
 ·have:cs=[]:=List.length_eq_zero_iff.mp (by rw [h1];simp)
  subst this;rfl
 ·simp [Go.Ev.source,h1]
 ·simp [Go.Ev.source,e3,e4,e5]
theorem Pf {k:Nat} {h:H} {bar:Nat} {a:AV} {n:Nat} {cs:List AV} (v:Vw k h a n cs) (hc:cs.all AV.one=true) (hk:0<k) (bytes:Nat) (hs:n*bytes≤140737488355328) (E:Nat) (hE:h.get E=some (.cells [] 0)) (hbE:bar≤E) (hEn:E<h.n) (hb:bar≤h.n) :
  ∃ a' h',HM bar k bytes (some (.sl E 0 k 0 true)) (some a) h=some (a',h')∧OW k h' bar a' n cs∧h.n≤h'.n∧(∀ j,j<h.n→h'.get j=h.get j)∧(∀ j,a'.isAt j→E≤j)∧a'≠.nilsl:=by
 by_cases hn:n=0
 ·subst hn
  have:cs=[]:=List.length_eq_zero_iff.mp (by rw [v.1];simp)
  subst this
  refine ⟨.sl E 0 k 0 true,h,?_,⟨by simp,rfl,.inr ⟨E,[],true,rfl,hbE,hEn,by simpa using hE⟩⟩,Nat.le_refl _,fun _ _=>rfl,fun j hj=>by cases hj;exact Nat.le_refl _,by simp⟩
  simp only [HM,Hb v,if_pos hk,Ch,if_true]
 ·refine ⟨.sl h.n 0 k n false,h.alloc (.cells cs 0),?_,⟨v.1,hc,.inr ⟨h.n,[],false,rfl,hb,by simp [AP],by simp [AK]⟩⟩,by simp [AP],fun j hj=>by rw [AK,if_neg (by omega)],fun j hj=>by cases hj;omega,by simp⟩
  simp only [HM,Hb v,if_pos hk,Ch,if_true]
  rw [if_neg hn,hE]
  simp only
  rw [if_pos ⟨by simp,by simpa using hs,by have:=v.2.1;omega⟩]
  simp
section
variable {bar:Nat} {g:H} {a:AV} {n:Nat} {cs:List AV}
theorem Rs (v:Vw 1 g a n cs) (ha:Bg 1 a=some false) (hc:cs.all AV.one=true) (hn:n≤100000) (hb:bar≤g.n) :
  ∃ g' r,call tb prim BS [a] bar g=some (r,g')∧OW 1 g' g.n r n cs∧g.n≤g'.n∧∀ j,j<g.n→g'.get j=g.get j:=by
 have v2:Vw 1 (g.alloc (.cells [] 0)) a n cs:=v.mono (Ag.alloc _ (Nat.le_refl _)) (Nat.le_refl _)
 obtain ⟨r,g',e1,o1,n1,f1,i1,hnn⟩:=Pf (bar:=bar) v2 hc (by omega) 1 (by omega) g.n (by rw [AK,if_pos rfl]) hb (by simp [AP]) (by simp [AP];omega)
 have hone:r.one=true:=o1.one
 have hfin:OW 1 g' g.n r n cs∧g.n≤g'.n∧∀ j,j<g.n→g'.get j=g.get j :=
  ⟨o1.up i1,by simp [AP] at n1;omega,fun j hj=>by rw [f1 j (by simp [AP];omega),AK,if_neg (by omega)]⟩
 obtain ⟨x,g2,hcall,hr,h1⟩:=Aj (o:=call tb prim) (F:=f_slices_Clone_byte_byte) (bar:=bar) (h:=g) (args:=[a]) (P:=fun x g2=>x=r∧g2=g') rfl rfl (fun K hK=>by
  simp [f_slices_Clone_byte_byte,AO,go_sem,AB,ha,AX,Af,e1]
  simp [go_sem,AN,AM,AA,AE,AD,AC,AV.free.freeL,AV.free,AF,AH]
  exact ⟨_,_,⟨rfl,rfl⟩,hK _ _ ⟨rfl,rfl⟩⟩)
 subst hr h1
 exact ⟨_,_,AQ EZ hcall,hfin⟩
theorem Wq (p mo:Int):call tb prim Fz [.int .i64 p,.int .i64 mo] bar g=some (.bool (decide (0≤p)&&decide (p≤mo)&&decide (mo≤64)),g):=by
 refine AQ Tq (AZ rfl rfl (BJ ?_))
 by_cases h0:0≤p
 ·by_cases h1:p≤mo
  ·simp [f_cells_may,AO,go_sem,AB,AN,AM,AA,AE,AD,AC,AV.free.freeL,AV.free,AF,AH,h0,h1]
  ·simp [f_cells_may,AO,go_sem,AB,AN,AM,AA,AE,AD,AC,AV.free.freeL,AV.free,AF,AH,h0,h1]
 ·simp [f_cells_may,AO,go_sem,AB,AN,AM,AA,AE,AD,AC,AV.free.freeL,AV.free,AF,AH,h0]
theorem MT (n:Nat):rep [AV.int .u8 0] n=Df (List.replicate n 0):=by
 induction n with
 | zero=>rfl
 | succ n ih=>simp only [rep,ih,List.replicate_succ];rfl
theorem YW (n:Nat):rep [AV.bool false] n=Kr (List.replicate n false):=by
 induction n with
 | zero=>rfl
 | succ n ih=>simp only [rep,ih,List.replicate_succ];rfl
theorem dN {l:List Int} {q:Nat} {mo:Int} (v:Vw 1 g a (64*q) (Df l)) (ha:Bg 1 a=some false) (hq:(q:Int)≤mo) (hmo:mo≤64) (hl:l.length=64*q) (hr:∀ x ∈ l,0≤x∧x<256) (hb:bar≤g.n) :
  ∃ g' M ba da,call tb prim Hx [a,.int .i64 mo] bar g=some (.ptr M 0,g')∧MemV g' g.n M ⟨l,mo,List.replicate q false⟩ ba da∧g.n≤g'.n∧∀ j,j<g.n→g'.get j=g.get j:=by
 have hlen:=v.len
 have hone:(Df l).all AV.one=true:=by rw [List.all_eq_true];intro x hx;simp only [Df,List.mem_map] at hx;obtain ⟨y,_,rfl⟩:=hx;rfl
 obtain ⟨g1,ba,ec,ob,n1,f1⟩:=Rs (bar:=bar) v ha hone (by omega) hb
 have hone2:ba.one=true:=ob.one
 have hmay:=fun g:H=>Wq (bar:=bar) (g:=g) (q:Int) mo
 have hm:(decide (0≤(q:Int))&&decide ((q:Int)≤mo)&&decide (mo≤64))=true:=by simp;omega
 rw [hm] at hmay
 have hrem:(((64*q:Nat):Int)).tmod 64=0:=by rw [Int.tmod_eq_emod_of_nonneg (by omega)];omega
 have hquo:IntKind.i64.wrap ((((64*q:Nat):Int)).tdiv 64)=(q:Int):=by rw [Int.tdiv_eq_ediv_of_nonneg (by omega),BN (by omega) (by omega)];omega
 obtain ⟨N,hN⟩:∃ N:Int,N=((64*q:Nat):Int):=⟨_,rfl⟩
 rw [← hN] at hrem hquo hlen
 have hq0:(0:Int)≤(q:Int):=by omega
 have hq1:(q:Int)≤140737488355328:=by omega
 have hq2:(q:Int)≤9223372036854775807:=by omega
 obtain ⟨g3,hg3⟩:∃ g3,g3=(g1.alloc (.cells (Kr (List.replicate q false)) 0)).alloc (.cells [ba,.int .i64 mo,.sl g1.n 0 1 q true] 0):=⟨_,rfl⟩
 have n3:g3.n=g1.n+2:=by rw [hg3];simp [AP]
 have k3:∀ j,j<g1.n→g3.get j=g1.get j:=fun j hj=>by rw [hg3,AK,if_neg (by simp [AP];omega),AK,if_neg (by omega)]
 have ga:g3.get (g1.n+1)=some (.cells [ba,.int .i64 mo,.sl g1.n 0 1 q true] 0):=by rw [hg3,AK,if_pos (by simp [AP])]
 have gd:g3.get g1.n=some (.cells (Kr (List.replicate q false)) 0):=by rw [hg3,AK,if_neg (by simp [AP]),AK,if_pos rfl]
 have hba:∀ j,ba.isAt j→g.n≤j∧j<g1.n:=fun j hj=>ob.at_lt hj
 have hM:MemV g3 g.n (g1.n+1) ⟨l,mo,List.replicate q false⟩ ba (.sl g1.n 0 1 q true):=by
  refine ⟨ga,by omega,by omega,?_,?_,fun h=>by have:=hba _ h;omega,fun h=>by have h':g1.n=g1.n+1:=h;omega,fun j h1 h2=>by have h':g1.n=j:=h2;have:=hba _ h1;omega,by simp [hl],⟨by simp only;omega,hmo⟩,by simp;exact hq,hr⟩
  ·have:=ob.mono (h':=g3) (by omega) (fun j hj=>k3 j (hba j hj).2)
   show OW 1 g3 g.n ba l.length _
   rw [hl];exact this
  ·refine ⟨by simp [Kr],?_,.inr ⟨g1.n,[],true,by simp,by omega,by omega,by simpa using gd⟩⟩
   rw [List.all_eq_true];intro x hx;simp only [Kr,List.mem_map] at hx;obtain ⟨y,_,rfl⟩:=hx;rfl
 obtain ⟨x,g2,hcall,hr2,h1⟩:=Aj (o:=call tb prim) (F:=f_cells_Of) (bar:=bar) (h:=g) (args:=[a,.int .i64 mo]) (P:=fun x g2=>x=.ptr (g1.n+1) 0∧g2=g3) rfl rfl (fun K hK=>by
  simp [f_cells_Of,AO,go_sem,AB,hlen,As,← hN,hrem,hquo,hmay,ec,hq0,hq1,hq2,YW,AX,Af,hone2,Jg,Jh,Ji]
  rw [← hg3]
  simp [go_sem,AN,AM,AA,AE,AD,AC,AV.free.freeL,AV.free,AF,AH]
  exact ⟨_,_,⟨rfl,rfl⟩,hK _ _ ⟨rfl,rfl⟩⟩)
 subst hr2 h1
 exact ⟨_,_,_,_,AQ UW hcall,hM,by omega,fun j hj=>by rw [k3 j (by omega),f1 j hj]⟩
theorem QA (p:Nat) (mo:Int) (hp:(p:Int)≤mo) (hmo:mo≤64) (hb:bar≤g.n) :
  ∃ g' M ba da,call tb prim Du [.int .i64 p,.int .i64 mo] bar g=some (.ptr M 0,g')∧MemV g' g.n M (FO p mo) ba da∧g.n≤g'.n∧∀ j,j<g.n→g'.get j=g.get j:=by
 have hmay:=fun g:H=>Wq (bar:=bar) (g:=g) (p:Int) mo
 have hm:(decide (0≤(p:Int))&&decide ((p:Int)≤mo)&&decide (mo≤64))=true:=by simp;omega
 rw [hm] at hmay
 have hmul:IntKind.i64.wrap ((p:Int)*64)=((64*p:Nat):Int):=by rw [BN (by omega) (by omega)];omega
 obtain ⟨h1,hh1⟩:∃ h1,h1=g.alloc (.cells (Df (List.replicate (64*p) 0)) 0):=⟨_,rfl⟩
 have n1:h1.n=g.n+1:=by rw [hh1];simp [AP]
 have hv:Vw 1 h1 (.sl g.n 0 1 (64*p) true) (64*p) (Df (List.replicate (64*p) 0)) :=
  ⟨by simp [Df],by omega,.inr (.inr ⟨g.n,0,true,_,0,rfl,by omega,by rw [hh1,AK,if_pos rfl],by simp [Df],by simp [Df]⟩)⟩
 obtain ⟨g',M,ba,da,e1,m1,n2,f2⟩:=dN (bar:=bar) (q:=p) (mo:=mo) hv rfl hp hmo (by simp) (fun x hx=>by rw [List.mem_replicate] at hx;omega) (by omega)
 have hz:FO p mo=⟨List.replicate (64*p) 0,mo,List.replicate p false⟩:=by simp [FO,Nat.mul_comm]
 obtain ⟨N,hN⟩:∃ N:Int,N=((64*p:Nat):Int):=⟨_,rfl⟩
 have hNn:N.toNat=64*p:=by omega
 rw [← hN] at hmul
 have hq0:(0:Int)≤N:=by omega
 have hq1:N≤140737488355328:=by omega
 have hq2:N≤9223372036854775807:=by omega
 rw [hh1] at e1
 obtain ⟨x,g2,hcall,hr2,h2⟩:=Aj (o:=call tb prim) (F:=f_cells_New) (bar:=bar) (h:=g) (args:=[.int .i64 p,.int .i64 mo]) (P:=fun x g2=>x=.ptr M 0∧g2=g') rfl rfl (fun K hK=>by
  simp [f_cells_New,AO,go_sem,AB,hmay,hmul,hq0,hq1,hq2,hNn,MT,e1]
  simp [go_sem,AN,AM,AA,AE,AD,AC,AV.free.freeL,AV.free,AF,AH]
  exact ⟨_,_,⟨rfl,rfl⟩,hK _ _ ⟨rfl,rfl⟩⟩)
 subst hr2 h2
 refine ⟨_,M,ba,da,AQ Tp hcall,?_,by omega,fun j hj=>by rw [f2 j (by omega),hh1,AK,if_neg (by omega)]⟩
 rw [hz]
 exact ⟨m1.get,by have:=m1.bM;omega,m1.lt,m1.ob.bar_le (by omega),m1.od.bar_le (by omega),m1.nb,m1.nd,m1.ap,m1.sz,m1.m0,m1.m1,m1.rng⟩
end
end Go.Ev
set_option linter.unusedSectionVars false
namespace Go.Ev
open Go
def II (x:Int × Bool):List AV:=[.int .i64 x.1,.bool x.2]
def asC (x:Int × Int):List AV:=[.int .i32 x.1,.int .i64 x.2]
structure RowV (g:H) (b:Nat) (R:Nat) (r:Row) (la aa:AV):Prop where
 get:g.get R=some (.cells [la,aa] 0)
 bR:b≤R
 lt:R<g.n
 l:Vw 2 g la r.l.length (r.l.flatMap II)
 asks:OW 2 g b aa r.asks.length (r.asks.flatMap asC)
 nl:¬ la.isAt R
 na:¬ aa.isAt R
 ap:la.apart aa
 sm:r.asks.length≤2000000
theorem Vw.at_lt' {k:Nat} {h:H} {a:AV} {n:Nat} {cs:List AV} (v:Vw k h a n cs) {j:Nat} (hj:a.isAt j):j<h.n:=by
 obtain ⟨_,_,⟨rfl,_⟩ | ⟨full,rfl⟩ | ⟨id,off,full,all,p,rfl,e2,_⟩⟩:=v
 ·exact hj.elim
 ·exact hj.elim
 ·cases hj;exact e2
theorem Vw.keep {k:Nat} {h h':H} {a:AV} {n:Nat} {cs:List AV} (v:Vw k h a n cs) (hn:h.n≤h'.n) (hf:∀ j,a.isAt j→h'.get j=h.get j):Vw k h' a n cs:=by
 obtain ⟨h1,h2,h3 | h3 | ⟨id,off,full,all,p,e1,e2,e3,e4,e5⟩⟩:=v
 ·exact ⟨h1,h2,.inl h3⟩
 ·exact ⟨h1,h2,.inr (.inl h3)⟩
 ·exact ⟨h1,h2,.inr (.inr ⟨id,off,full,all,p,e1,by omega,by rw [hf id (by rw [e1];rfl)];exact e3,e4,e5⟩)⟩
theorem RowV.mono {g g':H} {b R:Nat} {r:Row} {la aa:AV} (v:RowV g b R r la aa) (hn:g.n≤g'.n) (h0:g'.get R=g.get R) (h1:∀ j,la.isAt j→g'.get j=g.get j) (h2:∀ j,aa.isAt j→g'.get j=g.get j):RowV g' b R r la aa :=
 ⟨by rw [h0];exact v.get,v.bR,by have:=v.lt;omega,v.l.keep hn h1,v.asks.mono hn h2,v.nl,v.na,v.ap,v.sm⟩
section
variable {bar b R:Nat} {g:H} {r:Row} {la aa:AV}
theorem Ox (hb:bar≤g.n):∃ g',call tb prim CI [.nilsl] bar g=some (.ptr g.n 0,g')∧RowV g' g.n g.n ⟨[],[]⟩ .nilsl .nilsl∧g'.n=g.n+1∧∀ j,j<g.n→g'.get j=g.get j:=by
 obtain ⟨x,g2,hcall,hr2,h2⟩:=Aj (o:=call tb prim) (F:=f_reply_New) (bar:=bar) (h:=g) (args:=[.nilsl]) (P:=fun x g2=>x=.ptr g.n 0∧g2=g.alloc (.cells [.nilsl,.nilsl] 0)) rfl rfl (fun K hK=>by
  simp [f_reply_New,AO,go_sem,AB,AX,Af,Ap,BI,AY,BL]
  refine Ad GT.eq_1 ?_
  simp [go_sem]
  simp [go_sem,AN,AM,AA,AE,AD,AC,AV.free.freeL,AV.free,AF,AH]
  exact ⟨_,_,⟨rfl,rfl⟩,hK _ _ ⟨rfl,rfl⟩⟩)
 subst hr2 h2
 refine ⟨_,AQ OR hcall,⟨by simp [AK],Nat.le_refl _,by simp [AP],Vw.nil,OW.nil,fun h=>h,fun h=>h,fun j h=>h.elim,by simp⟩,by simp [AP],fun j hj=>by rw [AK,if_neg (by omega)]⟩
theorem So {l:List (Int × Int)} {a:AV} {g0:H} (v:OW 2 g b a l.length (l.flatMap asC)) (hs:l.length≤2000000) :
  ∃ r,call tb prim Bq [a] bar g=some (r,g)∧FzV 2 r l.length (l.flatMap asC):=by
 obtain ⟨r,hc,h⟩:=CG (o:=call tb prim) (F:=f_slices_Clone_api_Ask_api_Ask) (bar:=bar) (h:=g) (args:=[a]) (P:=fun r=>FzV 2 r l.length (l.flatMap asC)) rfl rfl (fun K hK=>by
  have hone:(l.flatMap asC).all AV.one=true:=v.2.1
  have hstill:(l.flatMap asC).all AV.still=true:=by
   rw [List.all_eq_true];intro y hy;rw [List.mem_flatMap] at hy;obtain ⟨u,_,hy⟩:=hy;simp [asC] at hy;rcases hy with rfl | rfl<;>rfl
  by_cases hz:a=.nilsl
  ·subst hz
   have hl:l.length=0:=by
    obtain ⟨_,_,⟨_,e⟩ | ⟨id,rest,full,e,_⟩⟩:=v
    ·exact e
    ·cases e
   have hl0:l=[]:=List.length_eq_zero_iff.mp hl
   subst hl0
   simp [f_slices_Clone_api_Ask_api_Ask,AO,go_sem,AB,Bg]
   simp [go_sem,Bf,AA,AE,AD,AV.free.freeL,AF,AC,AV.free]
   exact hK _ ⟨rfl,by simp,.inl ⟨rfl,rfl⟩⟩
  ·have ha:Bg 1 a=some false:=by
    obtain ⟨_,_,⟨e,_⟩ | ⟨id,rest,full,e,_⟩⟩:=v
    ·exact absurd e hz
    ·subst e;rfl
   have v2:Vw 2 (g.alloc (.cells [] 0)) a l.length (l.flatMap asC):=(v.vw (by omega)).mono (Ag.alloc _ (Nat.le_refl _)) (Nat.le_refl _)
   obtain ⟨x,g',e1,o1,n1,f1,i1,hnn⟩:=Pf (bar:=g.n) v2 hone (by omega) 16 (by omega) g.n (by rw [AK,if_pos rfl]) (Nat.le_refl _) (by simp [AP]) (by simp [AP])
   have hone2:x.one=true:=o1.one
   obtain ⟨a',h',hfz,hfv⟩:∃ a' h',AC g.n 4 g' x=some (a',h')∧FzV 2 a' l.length (l.flatMap asC):=by
    obtain ⟨h1,h2,⟨rfl,e⟩ | ⟨id,rest,full,rfl,g1,g2,g3⟩⟩:=o1
    ·exact absurd rfl hnn
    ·refine ⟨.fz 2 l.length (l.flatMap asC) full,g'.set id (.cells (l.flatMap asC++rest) (max 0 (0+l.length*2))),?_,h1,by omega,.inr ⟨full,rfl⟩⟩
     have hcs:((l.flatMap asC++rest).drop 0).take (l.length*2)=l.flatMap asC:=by rw [List.drop_zero,← h1,List.take_left]
     have hf:(l.flatMap asC).all AV.free=true:=by rw [List.all_eq_true] at hstill ⊢;exact fun x hx=>IE (hstill x hx)
     simp only [AC,g3]
     rw [if_pos ⟨g1,by simp [h1]⟩,hcs,Et hstill]
     simp only
     rw [if_pos ⟨hf,h2⟩]
   simp [f_slices_Clone_api_Ask_api_Ask,AO,go_sem,AB,ha,AX,Af,e1]
   simp [go_sem,Bf,AA,AE,AD,AV.free.freeL,AF,hfz,hfv.free]
   exact hK _ hfv)
 exact ⟨r,AQ Hm hc,h⟩
theorem Ua (v:RowV g b R r la aa):∃ x,call tb prim Dr [.ptr R 0] bar g=some (x,g)∧FzV 2 x r.asks.length (r.asks.flatMap asC):=by
 obtain ⟨x,hc,h⟩:=CG (o:=call tb prim) (F:=f_reply_Row_Asks) (bar:=bar) (h:=g) (args:=[.ptr R 0]) (P:=fun x=>FzV 2 x r.asks.length (r.asks.flatMap asC)) rfl rfl (fun K hK=>by
  obtain ⟨x,e1,h1⟩:=So (bar:=g.n) (g0:=g) v.asks v.sm
  have hg:=v.get
  simp [f_reply_Row_Asks,AO,go_sem,AB,AG,hg,e1]
  have hfz:AC g.n 4 g x=some (x,g):=by
   obtain ⟨h1,h2,⟨rfl,_⟩ | ⟨f,rfl⟩⟩:=h1<;>simp [AC]
  simp [go_sem,Bf,AA,AE,AD,AV.free.freeL,AF,hfz,h1.free]
  exact hK _ h1)
 exact ⟨x,AQ Ok hc,h⟩
end
end Go.Ev
set_option linter.unusedSectionVars false
namespace Go.Ev
open Go
theorem Kk (a b v:AV):AL [a,b] 0 [v]=[v,b]:=Eq.trans rfl rfl
theorem OF (a b v:AV):AL [a,b] 1 [v]=[a,v]:=Eq.trans rfl rfl
theorem Vu (a b u v:AV):AL [a,b] 0 [u,v]=[u,v]:=Eq.trans rfl rfl
theorem Vw.tail {A:Type} {c:A→List AV} {k:Nat} (hk:∀ x,(c x).length=k) {h:H} {a:AV} {x:A} {l:List A} (v:Vw k h a (x::l).length ((x::l).flatMap c)) :
  ∃ a',BI k a (some (.int .i64 1)) none none=some a'∧a'.one=true∧(∀ j,a'.isAt j→a.isAt j)∧Vw k h a' l.length (l.flatMap c):=by
 have e1:AY 0 (some (AV.int .i64 1))=some 1:=rfl
 have e2:∀ n,AY n none=some n:=fun _=>rfl
 have hd:((x::l).flatMap c).drop (1*k)=l.flatMap c:=by rw [Ic hk];rfl
 have hll:(l.flatMap c).length=l.length*k:=GS hk l
 obtain ⟨hl,hn,⟨_,e⟩ | ⟨full,rfl⟩ | ⟨id,off,full,all,q,rfl,hid,hgi,hle,hc⟩⟩:=v
 ·simp at e
 ·refine ⟨.fz k ((x::l).length - 1) ((((x::l).flatMap c).drop (1*k)).take (((x::l).length - 1)*k)) (full&&decide ((x::l).length=(x::l).length)),?_,rfl,fun j hj=>hj,?_⟩
  ·simp only [BI,e1,e2]
   rw [if_pos ⟨trivial,hl,by simp,Nat.le_refl _⟩]
  ·rw [hd,List.take_of_length_le (by rw [hll];simp)]
   exact Vw.fz hll (by have:(x::l).length=l.length+1:=rfl;omega)
 ·refine ⟨.sl id (off+1*k) k ((x::l).length - 1) (full&&decide ((x::l).length=(x::l).length)),?_,rfl,fun j hj=>hj,?_⟩
  ·simp only [BI,e1,e2]
   rw [if_pos ⟨trivial,by simp,Nat.le_refl _⟩]
  ·refine ⟨hll,by have:(x::l).length=l.length+1:=rfl;omega,.inr (.inr ⟨id,off+1*k,_,all,q,rfl,hid,hgi,?_,?_⟩)⟩
   ·simp only [List.length_cons,Nat.succ_mul] at hle;omega
   ·rw [← hd,← hc,List.drop_take,List.drop_drop]
    congr 1
    simp only [List.length_cons,Nat.succ_mul];omega
theorem ZI {o:Oracle} {bar:Nat} {g:H} {v:AV} {x:Int × Bool} {l:List (Int × Bool)} {n:Nat} (hv:Vw 2 g v n ((x::l).flatMap II)) (hn:n=l.length+1) {c d:Nat} {r:List IOper} {ks:List Fr} {e:Env} {Q:Ex→Env→H→Prop}
  (hw:∀ u,HC o bar r ks ((d,.agg (II x))::(c,u)::e) g Q):Lh o bar (Hu 2 (some v) (some (.int .i64 0)) g) (some c) (⟨some d,.ld true 2 (.t c),none⟩::r) ks e Q:=by
 have hrow:=IL (c:=II) (k:=2) (fun _=>rfl) (x::l) 0 x rfl
 have hix:AJ (.int .i64 0) n=some 0:=by
  simp only [AJ];rw [if_pos ⟨by omega,by omega⟩];rfl
 have hlen:((x::l).flatMap II).length=n*2:=hv.1
 have h2:2≤((x::l).flatMap II).length:=by rw [hlen];omega
 simp only [Nat.zero_mul,List.drop_zero] at hrow
 obtain ⟨hl,_,⟨rfl,h2'⟩ | ⟨full,rfl⟩ | ⟨id,off,full,all,q,rfl,hid,hg,hle2,hc⟩⟩:=hv
 ·omega
 ·generalize (x::l).flatMap II=cs at *
  have hl':(cs.length=n*2)=True:=by simpa using hl
  simp [go_sem,hix,hl',h2,hrow]
  exact hw _
 ·have hrow2:(all.drop off).take 2=II x:=by
   rw [← hrow,← hc,List.take_take]
   congr 1;omega
  have h3:off+2≤all.length:=by omega
  simp [go_sem,hix,hg,hrow2,h3]
  exact hw _
section
variable {bar b R:Nat} {g:H} {r:Row} {la aa:AV}
theorem au (v:RowV g b R r la aa) (hb:bar≤b) (hbg:b≤g.n) (hs:r.asks.length<2000000) (nm n:Int) :
  ∃ g' la' aa',call tb prim FK [.ptr R 0,.int .i32 nm,.int .i64 n] bar g=some (.tup [.int .i64 (FY r nm n).2.1,.bool (FY r nm n).2.2],g')∧RowV g' b R (FY r nm n).1 la' aa'∧(∀ j,la'.isAt j→la.isAt j)∧(∀ j,aa'.isAt j→g.n≤j)∧g.n≤g'.n∧∀ j,j<g.n→j≠R→¬ aa.isAt j→g'.get j=g.get j:=by
 obtain ⟨h',e2,o2,n1,f1⟩:=(v.asks.bar_le hb).app (bar:=bar) (by omega) 16 [.int .i32 nm,.int .i64 n] rfl rfl (by omega) (by omega) (by omega)
 have o1:OW 2 h' b (.sl (g.n+1) 0 2 (r.asks.length+1) false) (r.asks++[(nm,n)]).length ((r.asks++[(nm,n)]).flatMap asC):=by
  have:=o2.up (b:=b) fun j hj=>by cases hj;omega
  simpa [asC] using this
 have hg:=v.get
 have hR:=v.lt
 have hbR:bar≤R:=Nat.le_trans hb v.bR
 have hgR:h'.get R=some (.cells [la,aa] 0):=by rw [f1 R hR v.na];exact hg
 have hla:la.one=true:=v.l.one
 have hll:=v.l.len
 have hRn:¬ R=g.n+2:=by omega
 have hRn':R≠h'.n:=by omega
 obtain ⟨h2,hh2⟩:∃ h2,h2=h'.set R (.cells [la,.sl (g.n+1) 0 2 (r.asks.length+1) false] 0):=⟨_,rfl⟩
 have n2:h2.n=g.n+2:=by rw [hh2,AW];exact n1
 have k2:∀ j,j<g.n→j≠R→¬ aa.isAt j→h2.get j=g.get j:=fun j h1 h3 h4=>by rw [hh2,AI h3];exact f1 j h1 h4
 have hl2:Vw 2 h2 la r.l.length (r.l.flatMap II):=v.l.keep (by omega) fun j hj=>k2 j (v.l.at_lt' hj) (fun q=>v.nl (q ▸ hj)) (v.ap j hj)
 have o3:OW 2 h2 b (.sl (g.n+1) 0 2 (r.asks.length+1) false) (r.asks++[(nm,n)]).length ((r.asks++[(nm,n)]).flatMap asC):=o1.mono (by omega) fun j hj=>by cases hj;rw [hh2,AI (by omega)]
 cases hr:r.l with
 | nil =>
  have e0:FY r nm n=(⟨[],r.asks++[(nm,n)]⟩,0,true):=by simp [FY,hr]
  rw [e0]
  rw [hr] at hll hl2
  have hz:((0:Int) == 0)=true:=rfl
  have hfin:RowV h2 b R ⟨[],r.asks++[(nm,n)]⟩ la (.sl (g.n+1) 0 2 (r.asks.length+1) false)∧(∀ j,la.isAt j→la.isAt j)∧(∀ j,(AV.sl (g.n+1) 0 2 (r.asks.length+1) false).isAt j→g.n≤j)∧g.n≤h2.n∧∀ j,j<g.n→j≠R→¬ aa.isAt j→h2.get j=g.get j :=
   ⟨⟨by rw [hh2,AU,if_pos rfl],v.bR,by omega,hl2,o3,v.nl,fun h=>by cases h;omega,fun j h1 h3=>by cases h3;have:=v.l.at_lt' h1;omega,by simp;omega⟩,fun j h=>h,fun j h=>by cases h;omega,by omega,k2⟩
  obtain ⟨x,g2,hcall,hr2,h2'⟩:=Aj (o:=call tb prim) (F:=f_reply_Row_Ask) (bar:=bar) (h:=g) (args:=[.ptr R 0,.int .i32 nm,.int .i64 n]) (P:=fun x g2=>x=.tup [.int .i64 0,.bool true]∧g2=h2) rfl rfl (fun K hK=>by
   simp [f_reply_Row_Ask,AO,go_sem,AB,AG,hg,AX,Af,Kk,OF,Vu,e2,hgR,hbR,hll,As]
   rw [← hh2]
   simp [go_sem,AN,AM,AA,AE,AD,AC,AV.free.freeL,AV.free,AF,AH]
   exact ⟨_,_,⟨rfl,rfl⟩,hK _ _ ⟨rfl,rfl⟩⟩)
  subst hr2 h2'
  exact ⟨_,_,_,AQ Jq hcall,hfin⟩
 | cons x l =>
  have e0:FY r nm n=(⟨l,r.asks++[(nm,n)]⟩,x.1,x.2):=by simp [FY,hr]
  rw [e0]
  rw [hr] at hll hl2
  have hz:(((l.length:Int)+1) == 0)=false:=by simp;omega
  obtain ⟨la',htl,hla1,hat,hv2⟩:=Vw.tail (c:=II) (k:=2) (fun _=>rfl) hl2
  obtain ⟨h3,hh3⟩:∃ h3,h3=(h2.alloc (.cells [.int .i64 0,.bool false] 0)).set h2.n (.cells [.int .i64 x.1,.bool x.2] 0):=⟨_,rfl⟩
  have n3:h3.n=g.n+3:=by rw [hh3];simp [AW,AP,n2]
  have k3:∀ j,j<h2.n→h3.get j=h2.get j:=fun j hj=>by rw [hh3,AI (by omega),AK,if_neg (by omega)]
  obtain ⟨h4,hh4⟩:∃ h4,h4=h3.set R (.cells [la',.sl (g.n+1) 0 2 (r.asks.length+1) false] 0):=⟨_,rfl⟩
  have n4:h4.n=g.n+3:=by rw [hh4,AW];exact n3
  have k4:∀ j,j<h2.n→j≠R→h4.get j=h2.get j:=fun j h1 h3=>by rw [hh4,AI h3];exact k3 j h1
  have hfin:RowV h4 b R ⟨l,r.asks++[(nm,n)]⟩ la' (.sl (g.n+1) 0 2 (r.asks.length+1) false)∧(∀ j,la'.isAt j→la.isAt j)∧(∀ j,(AV.sl (g.n+1) 0 2 (r.asks.length+1) false).isAt j→g.n≤j)∧g.n≤h4.n∧∀ j,j<g.n→j≠R→¬ aa.isAt j→h4.get j=g.get j :=
   ⟨⟨by rw [hh4,AU,if_pos rfl],v.bR,by omega,hv2.keep (by omega) (fun j hj=>k4 j (by have:=v.l.at_lt' (hat j hj);omega) (fun q=>v.nl (q ▸ hat j hj))),o3.mono (by omega) (fun j hj=>by cases hj;exact k4 _ (by omega) (by omega)),fun h=>v.nl (hat _ h),fun h=>by cases h;omega,fun j h1 h5=>by cases h5;have:=v.l.at_lt' (hat _ h1);omega,by simp;omega⟩,hat,fun j h=>by cases h;omega,by omega,fun j h1 h5 h6=>by rw [k4 j (by omega) h5];exact k2 j h1 h5 h6⟩
  have hrow:=fun {c d:Nat} {rr:List IOper} {ks:List Fr} {e:Env} {Q:Ex→Env→H→Prop}=>ZI (o:=call tb prim) (bar:=bar) (c:=c) (d:=d) (r:=rr) (ks:=ks) (e:=e) (Q:=Q) hl2 rfl
  have hg2:h2.get R=some (.cells [la,.sl (g.n+1) 0 2 (r.asks.length+1) false] 0):=by rw [hh2,AU,if_pos rfl]
  have hg3:h3.get R=some (.cells [la,.sl (g.n+1) 0 2 (r.asks.length+1) false] 0):=by rw [k3 R (by omega)];exact hg2
  obtain ⟨y,g2,hcall,hr2,h2'⟩:=Aj (o:=call tb prim) (F:=f_reply_Row_Ask) (bar:=bar) (h:=g) (args:=[.ptr R 0,.int .i32 nm,.int .i64 n]) (P:=fun y g2=>y=.tup [.int .i64 x.1,.bool x.2]∧g2=h4) rfl rfl (fun K hK=>by
   simp [f_reply_Row_Ask,AO,go_sem,AB,AG,hg,AX,Af,Kk,OF,Vu,e2,hgR,hbR,hll,As,hz]
   rw [← hh2]
   refine hrow fun u=>?_
   have hb2:bar≤h2.n:=by omega
   have hRn2:¬ R=h2.n:=by omega
   have hRn3:¬ h2.n=R:=by omega
   simp [go_sem,AB,AG,II,Vu,Kk,hb2,hRn2,hRn3,hg2,Ap,htl,hbR,hla1]
   rw [← hh3,← hh4]
   simp [go_sem,AN,AM,AA,AE,AD,AC,AV.free.freeL,AV.free,AF,AH]
   exact ⟨_,_,⟨rfl,rfl⟩,hK _ _ ⟨rfl,rfl⟩⟩)
  subst hr2 h2'
  exact ⟨_,_,_,AQ Jq hcall,hfin⟩
end
end Go.Ev
set_option linter.unusedSectionVars false
namespace Go.Ev
open Go
section
variable {bar:Nat} {g:H}
theorem Si (p:Bool):call tb prim Fo [.bool p] bar g=some (.int .i64 (Sh p),g):=by
 refine AQ UY (AZ rfl rfl (BJ ?_))
 cases p<;>simp [f_word_bit,AO,go_sem,AB,AN,AM,AA,AE,AD,AC,AV.free.freeL,AV.free,AF,AH,Sh]
theorem Rf (sg a b:Int):call tb prim Fv [.int .i32 sg,.int .i64 a,.int .i64 b] bar g=some (.tup [.int .i64 (LO sg a b).1,.int .i64 (LO sg a b).2],g):=by
 refine AQ RI (AZ rfl rfl (BJ ?_))
 unfold LO
 by_cases h0:b=0
 ·subst h0;simp [f_word_parted,AO,go_sem,AB,AN,AM,AA,AE,AD,AC,AV.free.freeL,AV.free,AF,AH]
 have h0':(b == 0)=false:=by simpa using h0
 by_cases h1:sg=37
 ·subst h1
  by_cases h2:b=-1
  ·subst h2;simp [f_word_parted,AO,go_sem,AB,AN,AM,AA,AE,AD,AC,AV.free.freeL,AV.free,AF,AH]
  ·have h2':(b == -1)=false:=by simpa using h2
   simp [f_word_parted,AO,go_sem,AB,AN,AM,AA,AE,AD,AC,AV.free.freeL,AV.free,AF,AH,h0',h2',h0,h2]
 ·have h1':(sg == 37)=false:=by simpa using h1
  by_cases h3:a=-9223372036854775808
  ·subst h3
   by_cases h2:b=-1
   ·subst h2;simp [f_word_parted,AO,go_sem,AB,AN,AM,AA,AE,AD,AC,AV.free.freeL,AV.free,AF,AH,h1',h1]
   ·have h2':(b == -1)=false:=by simpa using h2
    simp [f_word_parted,AO,go_sem,AB,AN,AM,AA,AE,AD,AC,AV.free.freeL,AV.free,AF,AH,h0',h1',h2',h0,h1,h2,wI]
  ·have h3':(a == -9223372036854775808)=false:=by simpa using h3
   simp [f_word_parted,AO,go_sem,AB,AN,AM,AA,AE,AD,AC,AV.free.freeL,AV.free,AF,AH,h0',h1',h3',h0,h1,h3,wI]
theorem aL (a b:Int):HA .shl .i64 a (b % 64)=some (.int .i64 (wI (a*2 ^ (b % 64).toNat))):=by
 have c0:¬ (b % 64)<0:=by omega
 simp only [HA]
 rw [if_neg c0]
 have:min (b % 64).toNat IntKind.i64.bits=(b % 64).toNat:=by show min _ 64=_;omega
 rw [this];rfl
theorem aM (a b:Int):HA .shr .i64 a (b % 64)=some (.int .i64 (a.fdiv (2 ^ (b % 64).toNat))):=by
 have c0:¬ (b % 64)<0:=by omega
 simp only [HA]
 rw [if_neg c0]
 have:min (b % 64).toNat IntKind.i64.bits=(b % 64).toNat:=by show min _ 64=_;omega
 rw [this]
theorem Ys (sg a b:Int):call tb prim HT [.int .i32 sg,.int .i64 a,.int .i64 b] bar g=some (.tup [.int .i64 (DX sg a b).1,.int .i64 (DX sg a b).2],g):=by
 refine AQ WC (AZ rfl rfl (BJ ?_))
 by_cases h1:sg=43
 ·subst h1;simp [f_word_Do,AO,go_sem,AB,AN,AM,AA,AE,AD,AC,AV.free.freeL,AV.free,AF,AH,DX,wI]
 by_cases h2:sg=45
 ·subst h2;simp [f_word_Do,AO,go_sem,AB,AN,AM,AA,AE,AD,AC,AV.free.freeL,AV.free,AF,AH,DX,wI]
 by_cases h3:sg=42
 ·subst h3;simp [f_word_Do,AO,go_sem,AB,AN,AM,AA,AE,AD,AC,AV.free.freeL,AV.free,AF,AH,DX,wI]
 by_cases h4:sg=47
 ·subst h4;simp [f_word_Do,AO,go_sem,AB,AN,AM,AA,AE,AD,AC,AV.free.freeL,AV.free,AF,AH,DX,Rf]
 by_cases h5:sg=37
 ·subst h5;simp [f_word_Do,AO,go_sem,AB,AN,AM,AA,AE,AD,AC,AV.free.freeL,AV.free,AF,AH,DX,Rf]
 by_cases h6:sg=38
 ·subst h6
  simp [f_word_Do,AO,go_sem,AB,AN,AM,AA,AE,AD,AC,AV.free.freeL,AV.free,AF,AH,DX]
  rfl
 by_cases h7:sg=124
 ·subst h7
  simp [f_word_Do,AO,go_sem,AB,AN,AM,AA,AE,AD,AC,AV.free.freeL,AV.free,AF,AH,DX]
  rfl
 by_cases h8:sg=94
 ·subst h8
  simp [f_word_Do,AO,go_sem,AB,AN,AM,AA,AE,AD,AC,AV.free.freeL,AV.free,AF,AH,DX]
  rfl
 by_cases h9:sg=60
 ·subst h9;simp [f_word_Do,AO,go_sem,AB,AN,AM,AA,AE,AD,AC,AV.free.freeL,AV.free,AF,AH,DX,Si]
 by_cases h10:sg=61
 ·subst h10;simp [f_word_Do,AO,go_sem,AB,AN,AM,AA,AE,AD,AC,AV.free.freeL,AV.free,AF,AH,DX,Si]
 by_cases h11:sg=33
 ·subst h11;simp [f_word_Do,AO,go_sem,AB,AN,AM,AA,AE,AD,AC,AV.free.freeL,AV.free,AF,AH,DX,Si]
 by_cases h12:sg=171
 ·subst h12
  have e:=aL a b
  have e2:IntKind.i64.wrap (((BitVec.ofInt 64 b &&& 63#64).toNat:Nat):Int)=b % 64:=RL b 6 (by omega)
  simp [f_word_Do,AO,go_sem,AB,DX]
  erw [e2]
  rw [e]
  simp [go_sem,AN,AM,AA,AE,AD,AC,AV.free.freeL,AV.free,AF,AH]
 by_cases h13:sg=187
 ·subst h13
  have e:=aM a b
  have e2:IntKind.i64.wrap (((BitVec.ofInt 64 b &&& 63#64).toNat:Nat):Int)=b % 64:=RL b 6 (by omega)
  simp [f_word_Do,AO,go_sem,AB,DX]
  erw [e2]
  rw [e]
  simp [go_sem,AN,AM,AA,AE,AD,AC,AV.free.freeL,AV.free,AF,AH]
 have q1:(sg == 43)=false:=by simpa using h1
 have q2:(sg == 45)=false:=by simpa using h2
 have q3:(sg == 42)=false:=by simpa using h3
 have q4:(sg == 47)=false:=by simpa using h4
 have q5:(sg == 37)=false:=by simpa using h5
 have q6:(sg == 38)=false:=by simpa using h6
 have q7:(sg == 124)=false:=by simpa using h7
 have q8:(sg == 94)=false:=by simpa using h8
 have q9:(sg == 60)=false:=by simpa using h9
 have q10:(sg == 61)=false:=by simpa using h10
 have q11:(sg == 33)=false:=by simpa using h11
 have q12:(sg == 171)=false:=by simpa using h12
 have q13:(sg == 187)=false:=by simpa using h13
 simp [f_word_Do,AO,go_sem,AB,AN,AM,AA,AE,AD,AC,AV.free.freeL,AV.free,AF,AH,DX,q1,q2,q3,q4,q5,q6,q7,q8,q9,q10,q11,q12,q13,h1,h2,h3,h4,h5,h6,h7,h8,h9,h10,h11,h12,h13]
end
end Go.Ev
set_option linter.unusedSectionVars false
namespace Go.Ev
open Go
section
variable {bar:Nat} {g:H}
theorem Aq (s:ByteArray) (r:Int) (h0:0≤r) (h1:r<128):call tb prim Ao [.str s,.int .i32 r] bar g=some (.int .i64 (Lib.indexByte s.data.toList r.toNat.toUInt8),g):=by
 refine AQ Ax (AZ rfl rfl (BJ ?_))
 have hu:IntKind.u8.wrap r=r:=by rw [eV];omega
 have hi2:=fun (b:Nat) (g:H)=>Aw (bar:=b) (h:=g) s r
 simp [f_strings_IndexRune,AO,go_sem,AB,AN,AM,AA,AE,AD,AC,AV.free.freeL,AV.free,AF,AH,h0,h1,hu,hi2]
theorem Hc:IntKind.i64.wrap 0=0:=rfl
theorem EK:IntKind.i64.wrap 1=1:=rfl
theorem EL:IntKind.i64.wrap 2=2:=rfl
theorem Hd:IntKind.i64.wrap 3=3:=rfl
theorem He:IntKind.i64.wrap 4=4:=rfl
theorem Hf:IntKind.i64.wrap 5=5:=rfl
theorem Hg:IntKind.i64.wrap 6=6:=rfl
theorem Hi:IntKind.i64.wrap 7=7:=rfl
theorem Hj:IntKind.i64.wrap 8=8:=rfl
theorem Za:call tb prim Ao [.str ⟨#[63,58,93,126]⟩,.int .i32 171] bar g=some (.int .i64 (-1),g):=by
 refine AQ Ax (AZ rfl rfl (BJ ?_))
 have hv:=fun (b:Nat) (g:H)=>BB (pr:=prim) (bar:=b) (h:=g) 171
 have hvr:EA 171=true:=rfl
 have he:Utf8.encode 171=⟨#[194,171]⟩:=by decide +kernel
 have hz:(ByteArray.mk #[194,171]).size=2:=rfl
 have hz4:(ByteArray.mk #[63,58,93,126]).size=4:=rfl
 have hib:=fun (b:Nat) (g:H)=>Aw (bar:=b) (h:=g) ⟨#[93,126]⟩ 171
 have hx:Lib.indexByte (ByteArray.mk #[93,126]).data.toList (171:Int).toNat.toUInt8=-1:=by decide +kernel
 have hex:(ByteArray.mk #[63,58,93,126]).extract 2 4=⟨#[93,126]⟩:=by decide +kernel
 have hsl:BY ⟨#[63,58,93,126]⟩ (some (.int .i64 2)) none=some (.str ⟨#[93,126]⟩):=by
  simp [BY,AY,BL,hz4,hex]
 rw [hx] at hib
 simp [f_strings_IndexRune,AO,go_sem,AB,hv,hvr,he,hz,EK,EL]
 refine Ad Av.eq_1 ?_
 simp [go_sem,AB,hz,hz4,AJ,Ap,hsl,hib,Hc,EK,EL,Hd,He,Hf,Hg,Hi,Hj]
 simp [go_sem,AN,AM,AA,AE,AD,AC,AV.free.freeL,AV.free,AF,AH]
theorem Zc:call tb prim Ao [.str ⟨#[63,58,93,126]⟩,.int .i32 187] bar g=some (.int .i64 (-1),g):=by
 refine AQ Ax (AZ rfl rfl (BJ ?_))
 have hv:=fun (b:Nat) (g:H)=>BB (pr:=prim) (bar:=b) (h:=g) 187
 have hvr:EA 187=true:=rfl
 have he:Utf8.encode 187=⟨#[194,187]⟩:=by decide +kernel
 have hz:(ByteArray.mk #[194,187]).size=2:=rfl
 have hz4:(ByteArray.mk #[63,58,93,126]).size=4:=rfl
 have hib:=fun (b:Nat) (g:H)=>Aw (bar:=b) (h:=g) ⟨#[93,126]⟩ 187
 have hx:Lib.indexByte (ByteArray.mk #[93,126]).data.toList (187:Int).toNat.toUInt8=-1:=by decide +kernel
 have hex:(ByteArray.mk #[63,58,93,126]).extract 2 4=⟨#[93,126]⟩:=by decide +kernel
 have hsl:BY ⟨#[63,58,93,126]⟩ (some (.int .i64 2)) none=some (.str ⟨#[93,126]⟩):=by
  simp [BY,AY,BL,hz4,hex]
 rw [hx] at hib
 simp [f_strings_IndexRune,AO,go_sem,AB,hv,hvr,he,hz,EK,EL]
 refine Ad Av.eq_1 ?_
 simp [go_sem,AB,hz,hz4,AJ,Ap,hsl,hib,Hc,EK,EL,Hd,He,Hf,Hg,Hi,Hj]
 simp [go_sem,AN,AM,AA,AE,AD,AC,AV.free.freeL,AV.free,AF,AH]
theorem ZZ:call tb prim Ao [.str ⟨#[63,58,93,126]⟩,.int .i32 169] bar g=some (.int .i64 (-1),g):=by
 refine AQ Ax (AZ rfl rfl (BJ ?_))
 have hv:=fun (b:Nat) (g:H)=>BB (pr:=prim) (bar:=b) (h:=g) 169
 have hvr:EA 169=true:=rfl
 have he:Utf8.encode 169=⟨#[194,169]⟩:=by decide +kernel
 have hz:(ByteArray.mk #[194,169]).size=2:=rfl
 have hz4:(ByteArray.mk #[63,58,93,126]).size=4:=rfl
 have hib:=fun (b:Nat) (g:H)=>Aw (bar:=b) (h:=g) ⟨#[93,126]⟩ 169
 have hx:Lib.indexByte (ByteArray.mk #[93,126]).data.toList (169:Int).toNat.toUInt8=-1:=by decide +kernel
 have hex:(ByteArray.mk #[63,58,93,126]).extract 2 4=⟨#[93,126]⟩:=by decide +kernel
 have hsl:BY ⟨#[63,58,93,126]⟩ (some (.int .i64 2)) none=some (.str ⟨#[93,126]⟩):=by
  simp [BY,AY,BL,hz4,hex]
 rw [hx] at hib
 simp [f_strings_IndexRune,AO,go_sem,AB,hv,hvr,he,hz,EK,EL]
 refine Ad Av.eq_1 ?_
 simp [go_sem,AB,hz,hz4,AJ,Ap,hsl,hib,Hc,EK,EL,Hd,He,Hf,Hg,Hi,Hj]
 simp [go_sem,AN,AM,AA,AE,AD,AC,AV.free.freeL,AV.free,AF,AH]
theorem Zb:call tb prim Ao [.str ⟨#[63,58,93,126]⟩,.int .i32 174] bar g=some (.int .i64 (-1),g):=by
 refine AQ Ax (AZ rfl rfl (BJ ?_))
 have hv:=fun (b:Nat) (g:H)=>BB (pr:=prim) (bar:=b) (h:=g) 174
 have hvr:EA 174=true:=rfl
 have he:Utf8.encode 174=⟨#[194,174]⟩:=by decide +kernel
 have hz:(ByteArray.mk #[194,174]).size=2:=rfl
 have hz4:(ByteArray.mk #[63,58,93,126]).size=4:=rfl
 have hib:=fun (b:Nat) (g:H)=>Aw (bar:=b) (h:=g) ⟨#[93,126]⟩ 174
 have hx:Lib.indexByte (ByteArray.mk #[93,126]).data.toList (174:Int).toNat.toUInt8=-1:=by decide +kernel
 have hex:(ByteArray.mk #[63,58,93,126]).extract 2 4=⟨#[93,126]⟩:=by decide +kernel
 have hsl:BY ⟨#[63,58,93,126]⟩ (some (.int .i64 2)) none=some (.str ⟨#[93,126]⟩):=by
  simp [BY,AY,BL,hz4,hex]
 rw [hx] at hib
 simp [f_strings_IndexRune,AO,go_sem,AB,hv,hvr,he,hz,EK,EL]
 refine Ad Av.eq_1 ?_
 simp [go_sem,AB,hz,hz4,AJ,Ap,hsl,hib,Hc,EK,EL,Hd,He,Hf,Hg,Hi,Hj]
 simp [go_sem,AN,AM,AA,AE,AD,AC,AV.free.freeL,AV.free,AF,AH]
theorem ZY:call tb prim Ao [.str ⟨#[63,58,93,126]⟩,.int .i32 164] bar g=some (.int .i64 (-1),g):=by
 refine AQ Ax (AZ rfl rfl (BJ ?_))
 have hv:=fun (b:Nat) (g:H)=>BB (pr:=prim) (bar:=b) (h:=g) 164
 have hvr:EA 164=true:=rfl
 have he:Utf8.encode 164=⟨#[194,164]⟩:=by decide +kernel
 have hz:(ByteArray.mk #[194,164]).size=2:=rfl
 have hz4:(ByteArray.mk #[63,58,93,126]).size=4:=rfl
 have hib:=fun (b:Nat) (g:H)=>Aw (bar:=b) (h:=g) ⟨#[93,126]⟩ 164
 have hx:Lib.indexByte (ByteArray.mk #[93,126]).data.toList (164:Int).toNat.toUInt8=-1:=by decide +kernel
 have hex:(ByteArray.mk #[63,58,93,126]).extract 2 4=⟨#[93,126]⟩:=by decide +kernel
 have hsl:BY ⟨#[63,58,93,126]⟩ (some (.int .i64 2)) none=some (.str ⟨#[93,126]⟩):=by
  simp [BY,AY,BL,hz4,hex]
 rw [hx] at hib
 simp [f_strings_IndexRune,AO,go_sem,AB,hv,hvr,he,hz,EK,EL]
 refine Ad Av.eq_1 ?_
 simp [go_sem,AB,hz,hz4,AJ,Ap,hsl,hib,Hc,EK,EL,Hd,He,Hf,Hg,Hi,Hj]
 simp [go_sem,AN,AM,AA,AE,AD,AC,AV.free.freeL,AV.free,AF,AH]
theorem ZX:call tb prim Ao [.str ⟨#[63,58,93,126]⟩,.int .i32 161] bar g=some (.int .i64 (-1),g):=by
 refine AQ Ax (AZ rfl rfl (BJ ?_))
 have hv:=fun (b:Nat) (g:H)=>BB (pr:=prim) (bar:=b) (h:=g) 161
 have hvr:EA 161=true:=rfl
 have he:Utf8.encode 161=⟨#[194,161]⟩:=by decide +kernel
 have hz:(ByteArray.mk #[194,161]).size=2:=rfl
 have hz4:(ByteArray.mk #[63,58,93,126]).size=4:=rfl
 have hib:=fun (b:Nat) (g:H)=>Aw (bar:=b) (h:=g) ⟨#[93,126]⟩ 161
 have hx:Lib.indexByte (ByteArray.mk #[93,126]).data.toList (161:Int).toNat.toUInt8=-1:=by decide +kernel
 have hex:(ByteArray.mk #[63,58,93,126]).extract 2 4=⟨#[93,126]⟩:=by decide +kernel
 have hsl:BY ⟨#[63,58,93,126]⟩ (some (.int .i64 2)) none=some (.str ⟨#[93,126]⟩):=by
  simp [BY,AY,BL,hz4,hex]
 rw [hx] at hib
 simp [f_strings_IndexRune,AO,go_sem,AB,hv,hvr,he,hz,EK,EL]
 refine Ad Av.eq_1 ?_
 simp [go_sem,AB,hz,hz4,AJ,Ap,hsl,hib,Hc,EK,EL,Hd,He,Hf,Hg,Hi,Hj]
 simp [go_sem,AN,AM,AA,AE,AD,AC,AV.free.freeL,AV.free,AF,AH]
theorem Zd:call tb prim Ao [.str ⟨#[63,58,93,126]⟩,.int .i32 960] bar g=some (.int .i64 (-1),g):=by
 refine AQ Ax (AZ rfl rfl (BJ ?_))
 have hv:=fun (b:Nat) (g:H)=>BB (pr:=prim) (bar:=b) (h:=g) 960
 have hvr:EA 960=true:=rfl
 have he:Utf8.encode 960=⟨#[207,128]⟩:=by decide +kernel
 have hz:(ByteArray.mk #[207,128]).size=2:=rfl
 have hz4:(ByteArray.mk #[63,58,93,126]).size=4:=rfl
 have hib:=fun (b:Nat) (g:H)=>Aw (bar:=b) (h:=g) ⟨#[93,126]⟩ 128
 have hx:Lib.indexByte (ByteArray.mk #[93,126]).data.toList (128:Int).toNat.toUInt8=-1:=by decide +kernel
 have hex:(ByteArray.mk #[63,58,93,126]).extract 2 4=⟨#[93,126]⟩:=by decide +kernel
 have hsl:BY ⟨#[63,58,93,126]⟩ (some (.int .i64 2)) none=some (.str ⟨#[93,126]⟩):=by
  simp [BY,AY,BL,hz4,hex]
 rw [hx] at hib
 simp [f_strings_IndexRune,AO,go_sem,AB,hv,hvr,he,hz,EK,EL]
 refine Ad Av.eq_1 ?_
 simp [go_sem,AB,hz,hz4,AJ,Ap,hsl,hib,Hc,EK,EL,Hd,He,Hf,Hg,Hi,Hj]
 simp [go_sem,AN,AM,AA,AE,AD,AC,AV.free.freeL,AV.free,AF,AH]
theorem Zh:call tb prim Ao [.str ⟨#[64,194,169,36,194,174,35,194,164]⟩,.int .i32 171] bar g=some (.int .i64 (-1),g):=by
 refine AQ Ax (AZ rfl rfl (BJ ?_))
 have hv:=fun (b:Nat) (g:H)=>BB (pr:=prim) (bar:=b) (h:=g) 171
 have hvr:EA 171=true:=rfl
 have he:Utf8.encode 171=⟨#[194,171]⟩:=by decide +kernel
 have hz:(ByteArray.mk #[194,171]).size=2:=rfl
 have hz4:(ByteArray.mk #[64,194,169,36,194,174,35,194,164]).size=9:=rfl
 have hib:=fun (b:Nat) (g:H)=>Aw (bar:=b) (h:=g) ⟨#[169,36,194,174,35,194,164]⟩ 171
 have hx:Lib.indexByte (ByteArray.mk #[169,36,194,174,35,194,164]).data.toList (171:Int).toNat.toUInt8=-1:=by decide +kernel
 have hex:(ByteArray.mk #[64,194,169,36,194,174,35,194,164]).extract 2 9=⟨#[169,36,194,174,35,194,164]⟩:=by decide +kernel
 have hsl:BY ⟨#[64,194,169,36,194,174,35,194,164]⟩ (some (.int .i64 2)) none=some (.str ⟨#[169,36,194,174,35,194,164]⟩):=by
  simp [BY,AY,BL,hz4,hex]
 rw [hx] at hib
 simp [f_strings_IndexRune,AO,go_sem,AB,hv,hvr,he,hz,EK,EL]
 refine Ad Av.eq_1 ?_
 simp [go_sem,AB,hz,hz4,AJ,Ap,hsl,hib,Hc,EK,EL,Hd,He,Hf,Hg,Hi,Hj]
 simp [go_sem,AN,AM,AA,AE,AD,AC,AV.free.freeL,AV.free,AF,AH]
theorem Zj:call tb prim Ao [.str ⟨#[64,194,169,36,194,174,35,194,164]⟩,.int .i32 187] bar g=some (.int .i64 (-1),g):=by
 refine AQ Ax (AZ rfl rfl (BJ ?_))
 have hv:=fun (b:Nat) (g:H)=>BB (pr:=prim) (bar:=b) (h:=g) 187
 have hvr:EA 187=true:=rfl
 have he:Utf8.encode 187=⟨#[194,187]⟩:=by decide +kernel
 have hz:(ByteArray.mk #[194,187]).size=2:=rfl
 have hz4:(ByteArray.mk #[64,194,169,36,194,174,35,194,164]).size=9:=rfl
 have hib:=fun (b:Nat) (g:H)=>Aw (bar:=b) (h:=g) ⟨#[169,36,194,174,35,194,164]⟩ 187
 have hx:Lib.indexByte (ByteArray.mk #[169,36,194,174,35,194,164]).data.toList (187:Int).toNat.toUInt8=-1:=by decide +kernel
 have hex:(ByteArray.mk #[64,194,169,36,194,174,35,194,164]).extract 2 9=⟨#[169,36,194,174,35,194,164]⟩:=by decide +kernel
 have hsl:BY ⟨#[64,194,169,36,194,174,35,194,164]⟩ (some (.int .i64 2)) none=some (.str ⟨#[169,36,194,174,35,194,164]⟩):=by
  simp [BY,AY,BL,hz4,hex]
 rw [hx] at hib
 simp [f_strings_IndexRune,AO,go_sem,AB,hv,hvr,he,hz,EK,EL]
 refine Ad Av.eq_1 ?_
 simp [go_sem,AB,hz,hz4,AJ,Ap,hsl,hib,Hc,EK,EL,Hd,He,Hf,Hg,Hi,Hj]
 simp [go_sem,AN,AM,AA,AE,AD,AC,AV.free.freeL,AV.free,AF,AH]
theorem Zg:call tb prim Ao [.str ⟨#[64,194,169,36,194,174,35,194,164]⟩,.int .i32 169] bar g=some (.int .i64 1,g):=by
 refine AQ Ax (AZ rfl rfl (BJ ?_))
 have hv:=fun (b:Nat) (g:H)=>BB (pr:=prim) (bar:=b) (h:=g) 169
 have hvr:EA 169=true:=rfl
 have he:Utf8.encode 169=⟨#[194,169]⟩:=by decide +kernel
 have hz:(ByteArray.mk #[194,169]).size=2:=rfl
 have hz4:(ByteArray.mk #[64,194,169,36,194,174,35,194,164]).size=9:=rfl
 have hib:=fun (b:Nat) (g:H)=>Aw (bar:=b) (h:=g) ⟨#[169,36,194,174,35,194,164]⟩ 169
 have hx:Lib.indexByte (ByteArray.mk #[169,36,194,174,35,194,164]).data.toList (169:Int).toNat.toUInt8=0:=by decide +kernel
 have hex:(ByteArray.mk #[64,194,169,36,194,174,35,194,164]).extract 2 9=⟨#[169,36,194,174,35,194,164]⟩:=by decide +kernel
 have hsl:BY ⟨#[64,194,169,36,194,174,35,194,164]⟩ (some (.int .i64 2)) none=some (.str ⟨#[169,36,194,174,35,194,164]⟩):=by
  simp [BY,AY,BL,hz4,hex]
 rw [hx] at hib
 simp [f_strings_IndexRune,AO,go_sem,AB,hv,hvr,he,hz,EK,EL]
 refine Ad Av.eq_1 ?_
 simp [go_sem,AB,hz,hz4,AJ,Ap,hsl,hib,Hc,EK,EL,Hd,He,Hf,Hg,Hi,Hj]
 refine Ad CE.eq_1 ?_
 simp [go_sem,AB,hz,hz4,AJ,Hc,EK,EL,Hd,He,Hf,Hg,Hi,Hj]
 refine Ad CE.eq_1 ?_
 simp [go_sem,AB,hz,hz4,AJ,Hc,EK,EL,Hd,He,Hf,Hg,Hi,Hj]
 simp [go_sem,AN,AM,AA,AE,AD,AC,AV.free.freeL,AV.free,AF,AH]
theorem Zi:call tb prim Ao [.str ⟨#[64,194,169,36,194,174,35,194,164]⟩,.int .i32 174] bar g=some (.int .i64 4,g):=by
 refine AQ Ax (AZ rfl rfl (BJ ?_))
 have hv:=fun (b:Nat) (g:H)=>BB (pr:=prim) (bar:=b) (h:=g) 174
 have hvr:EA 174=true:=rfl
 have he:Utf8.encode 174=⟨#[194,174]⟩:=by decide +kernel
 have hz:(ByteArray.mk #[194,174]).size=2:=rfl
 have hz4:(ByteArray.mk #[64,194,169,36,194,174,35,194,164]).size=9:=rfl
 have hib:=fun (b:Nat) (g:H)=>Aw (bar:=b) (h:=g) ⟨#[169,36,194,174,35,194,164]⟩ 174
 have hx:Lib.indexByte (ByteArray.mk #[169,36,194,174,35,194,164]).data.toList (174:Int).toNat.toUInt8=3:=by decide +kernel
 have hex:(ByteArray.mk #[64,194,169,36,194,174,35,194,164]).extract 2 9=⟨#[169,36,194,174,35,194,164]⟩:=by decide +kernel
 have hsl:BY ⟨#[64,194,169,36,194,174,35,194,164]⟩ (some (.int .i64 2)) none=some (.str ⟨#[169,36,194,174,35,194,164]⟩):=by
  simp [BY,AY,BL,hz4,hex]
 rw [hx] at hib
 simp [f_strings_IndexRune,AO,go_sem,AB,hv,hvr,he,hz,EK,EL]
 refine Ad Av.eq_1 ?_
 simp [go_sem,AB,hz,hz4,AJ,Ap,hsl,hib,Hc,EK,EL,Hd,He,Hf,Hg,Hi,Hj]
 refine Ad CE.eq_1 ?_
 simp [go_sem,AB,hz,hz4,AJ,Hc,EK,EL,Hd,He,Hf,Hg,Hi,Hj]
 refine Ad CE.eq_1 ?_
 simp [go_sem,AB,hz,hz4,AJ,Hc,EK,EL,Hd,He,Hf,Hg,Hi,Hj]
 simp [go_sem,AN,AM,AA,AE,AD,AC,AV.free.freeL,AV.free,AF,AH]
theorem Zf:call tb prim Ao [.str ⟨#[64,194,169,36,194,174,35,194,164]⟩,.int .i32 164] bar g=some (.int .i64 7,g):=by
 refine AQ Ax (AZ rfl rfl (BJ ?_))
 have hv:=fun (b:Nat) (g:H)=>BB (pr:=prim) (bar:=b) (h:=g) 164
 have hvr:EA 164=true:=rfl
 have he:Utf8.encode 164=⟨#[194,164]⟩:=by decide +kernel
 have hz:(ByteArray.mk #[194,164]).size=2:=rfl
 have hz4:(ByteArray.mk #[64,194,169,36,194,174,35,194,164]).size=9:=rfl
 have hib:=fun (b:Nat) (g:H)=>Aw (bar:=b) (h:=g) ⟨#[169,36,194,174,35,194,164]⟩ 164
 have hx:Lib.indexByte (ByteArray.mk #[169,36,194,174,35,194,164]).data.toList (164:Int).toNat.toUInt8=6:=by decide +kernel
 have hex:(ByteArray.mk #[64,194,169,36,194,174,35,194,164]).extract 2 9=⟨#[169,36,194,174,35,194,164]⟩:=by decide +kernel
 have hsl:BY ⟨#[64,194,169,36,194,174,35,194,164]⟩ (some (.int .i64 2)) none=some (.str ⟨#[169,36,194,174,35,194,164]⟩):=by
  simp [BY,AY,BL,hz4,hex]
 rw [hx] at hib
 simp [f_strings_IndexRune,AO,go_sem,AB,hv,hvr,he,hz,EK,EL]
 refine Ad Av.eq_1 ?_
 simp [go_sem,AB,hz,hz4,AJ,Ap,hsl,hib,Hc,EK,EL,Hd,He,Hf,Hg,Hi,Hj]
 refine Ad CE.eq_1 ?_
 simp [go_sem,AB,hz,hz4,AJ,Hc,EK,EL,Hd,He,Hf,Hg,Hi,Hj]
 refine Ad CE.eq_1 ?_
 simp [go_sem,AB,hz,hz4,AJ,Hc,EK,EL,Hd,He,Hf,Hg,Hi,Hj]
 simp [go_sem,AN,AM,AA,AE,AD,AC,AV.free.freeL,AV.free,AF,AH]
theorem Ze:call tb prim Ao [.str ⟨#[64,194,169,36,194,174,35,194,164]⟩,.int .i32 161] bar g=some (.int .i64 (-1),g):=by
 refine AQ Ax (AZ rfl rfl (BJ ?_))
 have hv:=fun (b:Nat) (g:H)=>BB (pr:=prim) (bar:=b) (h:=g) 161
 have hvr:EA 161=true:=rfl
 have he:Utf8.encode 161=⟨#[194,161]⟩:=by decide +kernel
 have hz:(ByteArray.mk #[194,161]).size=2:=rfl
 have hz4:(ByteArray.mk #[64,194,169,36,194,174,35,194,164]).size=9:=rfl
 have hib:=fun (b:Nat) (g:H)=>Aw (bar:=b) (h:=g) ⟨#[169,36,194,174,35,194,164]⟩ 161
 have hx:Lib.indexByte (ByteArray.mk #[169,36,194,174,35,194,164]).data.toList (161:Int).toNat.toUInt8=-1:=by decide +kernel
 have hex:(ByteArray.mk #[64,194,169,36,194,174,35,194,164]).extract 2 9=⟨#[169,36,194,174,35,194,164]⟩:=by decide +kernel
 have hsl:BY ⟨#[64,194,169,36,194,174,35,194,164]⟩ (some (.int .i64 2)) none=some (.str ⟨#[169,36,194,174,35,194,164]⟩):=by
  simp [BY,AY,BL,hz4,hex]
 rw [hx] at hib
 simp [f_strings_IndexRune,AO,go_sem,AB,hv,hvr,he,hz,EK,EL]
 refine Ad Av.eq_1 ?_
 simp [go_sem,AB,hz,hz4,AJ,Ap,hsl,hib,Hc,EK,EL,Hd,He,Hf,Hg,Hi,Hj]
 simp [go_sem,AN,AM,AA,AE,AD,AC,AV.free.freeL,AV.free,AF,AH]
theorem Zk:call tb prim Ao [.str ⟨#[64,194,169,36,194,174,35,194,164]⟩,.int .i32 960] bar g=some (.int .i64 (-1),g):=by
 refine AQ Ax (AZ rfl rfl (BJ ?_))
 have hv:=fun (b:Nat) (g:H)=>BB (pr:=prim) (bar:=b) (h:=g) 960
 have hvr:EA 960=true:=rfl
 have he:Utf8.encode 960=⟨#[207,128]⟩:=by decide +kernel
 have hz:(ByteArray.mk #[207,128]).size=2:=rfl
 have hz4:(ByteArray.mk #[64,194,169,36,194,174,35,194,164]).size=9:=rfl
 have hib:=fun (b:Nat) (g:H)=>Aw (bar:=b) (h:=g) ⟨#[169,36,194,174,35,194,164]⟩ 128
 have hx:Lib.indexByte (ByteArray.mk #[169,36,194,174,35,194,164]).data.toList (128:Int).toNat.toUInt8=-1:=by decide +kernel
 have hex:(ByteArray.mk #[64,194,169,36,194,174,35,194,164]).extract 2 9=⟨#[169,36,194,174,35,194,164]⟩:=by decide +kernel
 have hsl:BY ⟨#[64,194,169,36,194,174,35,194,164]⟩ (some (.int .i64 2)) none=some (.str ⟨#[169,36,194,174,35,194,164]⟩):=by
  simp [BY,AY,BL,hz4,hex]
 rw [hx] at hib
 simp [f_strings_IndexRune,AO,go_sem,AB,hv,hvr,he,hz,EK,EL]
 refine Ad Av.eq_1 ?_
 simp [go_sem,AB,hz,hz4,AJ,Ap,hsl,hib,Hc,EK,EL,Hd,He,Hf,Hg,Hi,Hj]
 simp [go_sem,AN,AM,AA,AE,AD,AC,AV.free.freeL,AV.free,AF,AH]
def HU (r:Int):Bool:=decide (r=43∨r=45∨r=42∨r=47∨r=37∨r=38∨r=124∨r=94∨r=60∨r=61∨r=33∨r=46∨r=44∨r=64∨r=36∨r=35∨r=63∨r=58∨r=59∨r=91∨r=93∨r=126∨r=171∨r=187∨r=169∨r=174∨r=164∨r=161∨r=960)
theorem Ar {s:ByteArray} {r i:Int} (h:∀ (b:Nat) (g:H),call tb prim Ao [.str s,.int .i32 r] b g=some (.int .i64 i,g)):call tb prim Be [.str s,.int .i32 r] bar g=some (.bool (decide (0≤i)),g):=by
 refine AQ KC (AZ rfl rfl (BJ ?_))
 simp [f_strings_ContainsRune,AO,go_sem,AB,AN,AM,AA,AE,AD,AC,AV.free.freeL,AV.free,AF,AH,h]
theorem VJ {r:Int} (h:HU r=true):call tb prim Be [.str ⟨#[63,58,93,126]⟩,.int .i32 r] bar g=some (.bool (Cs r),g):=by
 have h':r=43∨r=45∨r=42∨r=47∨r=37∨r=38∨r=124∨r=94∨r=60∨r=61∨r=33∨r=46∨r=44∨r=64∨r=36∨r=35∨r=63∨r=58∨r=59∨r=91∨r=93∨r=126∨r=171∨r=187∨r=169∨r=174∨r=164∨r=161∨r=960:=by simpa [HU] using h
 rcases h' with rfl | rfl | rfl | rfl | rfl | rfl | rfl | rfl | rfl | rfl | rfl | rfl | rfl | rfl | rfl | rfl | rfl | rfl | rfl | rfl | rfl | rfl | rfl | rfl | rfl | rfl | rfl | rfl | rfl
 ·exact (Ar (i:=Lib.indexByte (ByteArray.mk #[63,58,93,126]).data.toList (43:Int).toNat.toUInt8) (fun b g=>Aq _ 43 (by omega) (by omega))).trans (by rw [show (decide (0≤Lib.indexByte (ByteArray.mk #[63,58,93,126]).data.toList (43:Int).toNat.toUInt8))=Cs 43 from by decide +kernel])
 ·exact (Ar (i:=Lib.indexByte (ByteArray.mk #[63,58,93,126]).data.toList (45:Int).toNat.toUInt8) (fun b g=>Aq _ 45 (by omega) (by omega))).trans (by rw [show (decide (0≤Lib.indexByte (ByteArray.mk #[63,58,93,126]).data.toList (45:Int).toNat.toUInt8))=Cs 45 from by decide +kernel])
 ·exact (Ar (i:=Lib.indexByte (ByteArray.mk #[63,58,93,126]).data.toList (42:Int).toNat.toUInt8) (fun b g=>Aq _ 42 (by omega) (by omega))).trans (by rw [show (decide (0≤Lib.indexByte (ByteArray.mk #[63,58,93,126]).data.toList (42:Int).toNat.toUInt8))=Cs 42 from by decide +kernel])
 ·exact (Ar (i:=Lib.indexByte (ByteArray.mk #[63,58,93,126]).data.toList (47:Int).toNat.toUInt8) (fun b g=>Aq _ 47 (by omega) (by omega))).trans (by rw [show (decide (0≤Lib.indexByte (ByteArray.mk #[63,58,93,126]).data.toList (47:Int).toNat.toUInt8))=Cs 47 from by decide +kernel])
 ·exact (Ar (i:=Lib.indexByte (ByteArray.mk #[63,58,93,126]).data.toList (37:Int).toNat.toUInt8) (fun b g=>Aq _ 37 (by omega) (by omega))).trans (by rw [show (decide (0≤Lib.indexByte (ByteArray.mk #[63,58,93,126]).data.toList (37:Int).toNat.toUInt8))=Cs 37 from by decide +kernel])
 ·exact (Ar (i:=Lib.indexByte (ByteArray.mk #[63,58,93,126]).data.toList (38:Int).toNat.toUInt8) (fun b g=>Aq _ 38 (by omega) (by omega))).trans (by rw [show (decide (0≤Lib.indexByte (ByteArray.mk #[63,58,93,126]).data.toList (38:Int).toNat.toUInt8))=Cs 38 from by decide +kernel])
 ·exact (Ar (i:=Lib.indexByte (ByteArray.mk #[63,58,93,126]).data.toList (124:Int).toNat.toUInt8) (fun b g=>Aq _ 124 (by omega) (by omega))).trans (by rw [show (decide (0≤Lib.indexByte (ByteArray.mk #[63,58,93,126]).data.toList (124:Int).toNat.toUInt8))=Cs 124 from by decide +kernel])
 ·exact (Ar (i:=Lib.indexByte (ByteArray.mk #[63,58,93,126]).data.toList (94:Int).toNat.toUInt8) (fun b g=>Aq _ 94 (by omega) (by omega))).trans (by rw [show (decide (0≤Lib.indexByte (ByteArray.mk #[63,58,93,126]).data.toList (94:Int).toNat.toUInt8))=Cs 94 from by decide +kernel])
 ·exact (Ar (i:=Lib.indexByte (ByteArray.mk #[63,58,93,126]).data.toList (60:Int).toNat.toUInt8) (fun b g=>Aq _ 60 (by omega) (by omega))).trans (by rw [show (decide (0≤Lib.indexByte (ByteArray.mk #[63,58,93,126]).data.toList (60:Int).toNat.toUInt8))=Cs 60 from by decide +kernel])
 ·exact (Ar (i:=Lib.indexByte (ByteArray.mk #[63,58,93,126]).data.toList (61:Int).toNat.toUInt8) (fun b g=>Aq _ 61 (by omega) (by omega))).trans (by rw [show (decide (0≤Lib.indexByte (ByteArray.mk #[63,58,93,126]).data.toList (61:Int).toNat.toUInt8))=Cs 61 from by decide +kernel])
 ·exact (Ar (i:=Lib.indexByte (ByteArray.mk #[63,58,93,126]).data.toList (33:Int).toNat.toUInt8) (fun b g=>Aq _ 33 (by omega) (by omega))).trans (by rw [show (decide (0≤Lib.indexByte (ByteArray.mk #[63,58,93,126]).data.toList (33:Int).toNat.toUInt8))=Cs 33 from by decide +kernel])
 ·exact (Ar (i:=Lib.indexByte (ByteArray.mk #[63,58,93,126]).data.toList (46:Int).toNat.toUInt8) (fun b g=>Aq _ 46 (by omega) (by omega))).trans (by rw [show (decide (0≤Lib.indexByte (ByteArray.mk #[63,58,93,126]).data.toList (46:Int).toNat.toUInt8))=Cs 46 from by decide +kernel])
 ·exact (Ar (i:=Lib.indexByte (ByteArray.mk #[63,58,93,126]).data.toList (44:Int).toNat.toUInt8) (fun b g=>Aq _ 44 (by omega) (by omega))).trans (by rw [show (decide (0≤Lib.indexByte (ByteArray.mk #[63,58,93,126]).data.toList (44:Int).toNat.toUInt8))=Cs 44 from by decide +kernel])
 ·exact (Ar (i:=Lib.indexByte (ByteArray.mk #[63,58,93,126]).data.toList (64:Int).toNat.toUInt8) (fun b g=>Aq _ 64 (by omega) (by omega))).trans (by rw [show (decide (0≤Lib.indexByte (ByteArray.mk #[63,58,93,126]).data.toList (64:Int).toNat.toUInt8))=Cs 64 from by decide +kernel])
 ·exact (Ar (i:=Lib.indexByte (ByteArray.mk #[63,58,93,126]).data.toList (36:Int).toNat.toUInt8) (fun b g=>Aq _ 36 (by omega) (by omega))).trans (by rw [show (decide (0≤Lib.indexByte (ByteArray.mk #[63,58,93,126]).data.toList (36:Int).toNat.toUInt8))=Cs 36 from by decide +kernel])
 ·exact (Ar (i:=Lib.indexByte (ByteArray.mk #[63,58,93,126]).data.toList (35:Int).toNat.toUInt8) (fun b g=>Aq _ 35 (by omega) (by omega))).trans (by rw [show (decide (0≤Lib.indexByte (ByteArray.mk #[63,58,93,126]).data.toList (35:Int).toNat.toUInt8))=Cs 35 from by decide +kernel])
 ·exact (Ar (i:=Lib.indexByte (ByteArray.mk #[63,58,93,126]).data.toList (63:Int).toNat.toUInt8) (fun b g=>Aq _ 63 (by omega) (by omega))).trans (by rw [show (decide (0≤Lib.indexByte (ByteArray.mk #[63,58,93,126]).data.toList (63:Int).toNat.toUInt8))=Cs 63 from by decide +kernel])
 ·exact (Ar (i:=Lib.indexByte (ByteArray.mk #[63,58,93,126]).data.toList (58:Int).toNat.toUInt8) (fun b g=>Aq _ 58 (by omega) (by omega))).trans (by rw [show (decide (0≤Lib.indexByte (ByteArray.mk #[63,58,93,126]).data.toList (58:Int).toNat.toUInt8))=Cs 58 from by decide +kernel])
 ·exact (Ar (i:=Lib.indexByte (ByteArray.mk #[63,58,93,126]).data.toList (59:Int).toNat.toUInt8) (fun b g=>Aq _ 59 (by omega) (by omega))).trans (by rw [show (decide (0≤Lib.indexByte (ByteArray.mk #[63,58,93,126]).data.toList (59:Int).toNat.toUInt8))=Cs 59 from by decide +kernel])
 ·exact (Ar (i:=Lib.indexByte (ByteArray.mk #[63,58,93,126]).data.toList (91:Int).toNat.toUInt8) (fun b g=>Aq _ 91 (by omega) (by omega))).trans (by rw [show (decide (0≤Lib.indexByte (ByteArray.mk #[63,58,93,126]).data.toList (91:Int).toNat.toUInt8))=Cs 91 from by decide +kernel])
 ·exact (Ar (i:=Lib.indexByte (ByteArray.mk #[63,58,93,126]).data.toList (93:Int).toNat.toUInt8) (fun b g=>Aq _ 93 (by omega) (by omega))).trans (by rw [show (decide (0≤Lib.indexByte (ByteArray.mk #[63,58,93,126]).data.toList (93:Int).toNat.toUInt8))=Cs 93 from by decide +kernel])
 ·exact (Ar (i:=Lib.indexByte (ByteArray.mk #[63,58,93,126]).data.toList (126:Int).toNat.toUInt8) (fun b g=>Aq _ 126 (by omega) (by omega))).trans (by rw [show (decide (0≤Lib.indexByte (ByteArray.mk #[63,58,93,126]).data.toList (126:Int).toNat.toUInt8))=Cs 126 from by decide +kernel])
 ·exact (Ar (fun b g=>Za)).trans rfl
 ·exact (Ar (fun b g=>Zc)).trans rfl
 ·exact (Ar (fun b g=>ZZ)).trans rfl
 ·exact (Ar (fun b g=>Zb)).trans rfl
 ·exact (Ar (fun b g=>ZY)).trans rfl
 ·exact (Ar (fun b g=>ZX)).trans rfl
 ·exact (Ar (fun b g=>Zd)).trans rfl
theorem Yr {r:Int} (h:HU r=true):call tb prim Be [.str ⟨#[64,194,169,36,194,174,35,194,164]⟩,.int .i32 r] bar g=some (.bool (Bb r),g):=by
 have h':r=43∨r=45∨r=42∨r=47∨r=37∨r=38∨r=124∨r=94∨r=60∨r=61∨r=33∨r=46∨r=44∨r=64∨r=36∨r=35∨r=63∨r=58∨r=59∨r=91∨r=93∨r=126∨r=171∨r=187∨r=169∨r=174∨r=164∨r=161∨r=960:=by simpa [HU] using h
 rcases h' with rfl | rfl | rfl | rfl | rfl | rfl | rfl | rfl | rfl | rfl | rfl | rfl | rfl | rfl | rfl | rfl | rfl | rfl | rfl | rfl | rfl | rfl | rfl | rfl | rfl | rfl | rfl | rfl | rfl
 ·exact (Ar (i:=Lib.indexByte (ByteArray.mk #[64,194,169,36,194,174,35,194,164]).data.toList (43:Int).toNat.toUInt8) (fun b g=>Aq _ 43 (by omega) (by omega))).trans (by rw [show (decide (0≤Lib.indexByte (ByteArray.mk #[64,194,169,36,194,174,35,194,164]).data.toList (43:Int).toNat.toUInt8))=Bb 43 from by decide +kernel])
 ·exact (Ar (i:=Lib.indexByte (ByteArray.mk #[64,194,169,36,194,174,35,194,164]).data.toList (45:Int).toNat.toUInt8) (fun b g=>Aq _ 45 (by omega) (by omega))).trans (by rw [show (decide (0≤Lib.indexByte (ByteArray.mk #[64,194,169,36,194,174,35,194,164]).data.toList (45:Int).toNat.toUInt8))=Bb 45 from by decide +kernel])
 ·exact (Ar (i:=Lib.indexByte (ByteArray.mk #[64,194,169,36,194,174,35,194,164]).data.toList (42:Int).toNat.toUInt8) (fun b g=>Aq _ 42 (by omega) (by omega))).trans (by rw [show (decide (0≤Lib.indexByte (ByteArray.mk #[64,194,169,36,194,174,35,194,164]).data.toList (42:Int).toNat.toUInt8))=Bb 42 from by decide +kernel])
 ·exact (Ar (i:=Lib.indexByte (ByteArray.mk #[64,194,169,36,194,174,35,194,164]).data.toList (47:Int).toNat.toUInt8) (fun b g=>Aq _ 47 (by omega) (by omega))).trans (by rw [show (decide (0≤Lib.indexByte (ByteArray.mk #[64,194,169,36,194,174,35,194,164]).data.toList (47:Int).toNat.toUInt8))=Bb 47 from by decide +kernel])
 ·exact (Ar (i:=Lib.indexByte (ByteArray.mk #[64,194,169,36,194,174,35,194,164]).data.toList (37:Int).toNat.toUInt8) (fun b g=>Aq _ 37 (by omega) (by omega))).trans (by rw [show (decide (0≤Lib.indexByte (ByteArray.mk #[64,194,169,36,194,174,35,194,164]).data.toList (37:Int).toNat.toUInt8))=Bb 37 from by decide +kernel])
 ·exact (Ar (i:=Lib.indexByte (ByteArray.mk #[64,194,169,36,194,174,35,194,164]).data.toList (38:Int).toNat.toUInt8) (fun b g=>Aq _ 38 (by omega) (by omega))).trans (by rw [show (decide (0≤Lib.indexByte (ByteArray.mk #[64,194,169,36,194,174,35,194,164]).data.toList (38:Int).toNat.toUInt8))=Bb 38 from by decide +kernel])
 ·exact (Ar (i:=Lib.indexByte (ByteArray.mk #[64,194,169,36,194,174,35,194,164]).data.toList (124:Int).toNat.toUInt8) (fun b g=>Aq _ 124 (by omega) (by omega))).trans (by rw [show (decide (0≤Lib.indexByte (ByteArray.mk #[64,194,169,36,194,174,35,194,164]).data.toList (124:Int).toNat.toUInt8))=Bb 124 from by decide +kernel])
 ·exact (Ar (i:=Lib.indexByte (ByteArray.mk #[64,194,169,36,194,174,35,194,164]).data.toList (94:Int).toNat.toUInt8) (fun b g=>Aq _ 94 (by omega) (by omega))).trans (by rw [show (decide (0≤Lib.indexByte (ByteArray.mk #[64,194,169,36,194,174,35,194,164]).data.toList (94:Int).toNat.toUInt8))=Bb 94 from by decide +kernel])
 ·exact (Ar (i:=Lib.indexByte (ByteArray.mk #[64,194,169,36,194,174,35,194,164]).data.toList (60:Int).toNat.toUInt8) (fun b g=>Aq _ 60 (by omega) (by omega))).trans (by rw [show (decide (0≤Lib.indexByte (ByteArray.mk #[64,194,169,36,194,174,35,194,164]).data.toList (60:Int).toNat.toUInt8))=Bb 60 from by decide +kernel])
 ·exact (Ar (i:=Lib.indexByte (ByteArray.mk #[64,194,169,36,194,174,35,194,164]).data.toList (61:Int).toNat.toUInt8) (fun b g=>Aq _ 61 (by omega) (by omega))).trans (by rw [show (decide (0≤Lib.indexByte (ByteArray.mk #[64,194,169,36,194,174,35,194,164]).data.toList (61:Int).toNat.toUInt8))=Bb 61 from by decide +kernel])
 ·exact (Ar (i:=Lib.indexByte (ByteArray.mk #[64,194,169,36,194,174,35,194,164]).data.toList (33:Int).toNat.toUInt8) (fun b g=>Aq _ 33 (by omega) (by omega))).trans (by rw [show (decide (0≤Lib.indexByte (ByteArray.mk #[64,194,169,36,194,174,35,194,164]).data.toList (33:Int).toNat.toUInt8))=Bb 33 from by decide +kernel])
 ·exact (Ar (i:=Lib.indexByte (ByteArray.mk #[64,194,169,36,194,174,35,194,164]).data.toList (46:Int).toNat.toUInt8) (fun b g=>Aq _ 46 (by omega) (by omega))).trans (by rw [show (decide (0≤Lib.indexByte (ByteArray.mk #[64,194,169,36,194,174,35,194,164]).data.toList (46:Int).toNat.toUInt8))=Bb 46 from by decide +kernel])
 ·exact (Ar (i:=Lib.indexByte (ByteArray.mk #[64,194,169,36,194,174,35,194,164]).data.toList (44:Int).toNat.toUInt8) (fun b g=>Aq _ 44 (by omega) (by omega))).trans (by rw [show (decide (0≤Lib.indexByte (ByteArray.mk #[64,194,169,36,194,174,35,194,164]).data.toList (44:Int).toNat.toUInt8))=Bb 44 from by decide +kernel])
 ·exact (Ar (i:=Lib.indexByte (ByteArray.mk #[64,194,169,36,194,174,35,194,164]).data.toList (64:Int).toNat.toUInt8) (fun b g=>Aq _ 64 (by omega) (by omega))).trans (by rw [show (decide (0≤Lib.indexByte (ByteArray.mk #[64,194,169,36,194,174,35,194,164]).data.toList (64:Int).toNat.toUInt8))=Bb 64 from by decide +kernel])
 ·exact (Ar (i:=Lib.indexByte (ByteArray.mk #[64,194,169,36,194,174,35,194,164]).data.toList (36:Int).toNat.toUInt8) (fun b g=>Aq _ 36 (by omega) (by omega))).trans (by rw [show (decide (0≤Lib.indexByte (ByteArray.mk #[64,194,169,36,194,174,35,194,164]).data.toList (36:Int).toNat.toUInt8))=Bb 36 from by decide +kernel])
 ·exact (Ar (i:=Lib.indexByte (ByteArray.mk #[64,194,169,36,194,174,35,194,164]).data.toList (35:Int).toNat.toUInt8) (fun b g=>Aq _ 35 (by omega) (by omega))).trans (by rw [show (decide (0≤Lib.indexByte (ByteArray.mk #[64,194,169,36,194,174,35,194,164]).data.toList (35:Int).toNat.toUInt8))=Bb 35 from by decide +kernel])
 ·exact (Ar (i:=Lib.indexByte (ByteArray.mk #[64,194,169,36,194,174,35,194,164]).data.toList (63:Int).toNat.toUInt8) (fun b g=>Aq _ 63 (by omega) (by omega))).trans (by rw [show (decide (0≤Lib.indexByte (ByteArray.mk #[64,194,169,36,194,174,35,194,164]).data.toList (63:Int).toNat.toUInt8))=Bb 63 from by decide +kernel])
 ·exact (Ar (i:=Lib.indexByte (ByteArray.mk #[64,194,169,36,194,174,35,194,164]).data.toList (58:Int).toNat.toUInt8) (fun b g=>Aq _ 58 (by omega) (by omega))).trans (by rw [show (decide (0≤Lib.indexByte (ByteArray.mk #[64,194,169,36,194,174,35,194,164]).data.toList (58:Int).toNat.toUInt8))=Bb 58 from by decide +kernel])
 ·exact (Ar (i:=Lib.indexByte (ByteArray.mk #[64,194,169,36,194,174,35,194,164]).data.toList (59:Int).toNat.toUInt8) (fun b g=>Aq _ 59 (by omega) (by omega))).trans (by rw [show (decide (0≤Lib.indexByte (ByteArray.mk #[64,194,169,36,194,174,35,194,164]).data.toList (59:Int).toNat.toUInt8))=Bb 59 from by decide +kernel])
 ·exact (Ar (i:=Lib.indexByte (ByteArray.mk #[64,194,169,36,194,174,35,194,164]).data.toList (91:Int).toNat.toUInt8) (fun b g=>Aq _ 91 (by omega) (by omega))).trans (by rw [show (decide (0≤Lib.indexByte (ByteArray.mk #[64,194,169,36,194,174,35,194,164]).data.toList (91:Int).toNat.toUInt8))=Bb 91 from by decide +kernel])
 ·exact (Ar (i:=Lib.indexByte (ByteArray.mk #[64,194,169,36,194,174,35,194,164]).data.toList (93:Int).toNat.toUInt8) (fun b g=>Aq _ 93 (by omega) (by omega))).trans (by rw [show (decide (0≤Lib.indexByte (ByteArray.mk #[64,194,169,36,194,174,35,194,164]).data.toList (93:Int).toNat.toUInt8))=Bb 93 from by decide +kernel])
 ·exact (Ar (i:=Lib.indexByte (ByteArray.mk #[64,194,169,36,194,174,35,194,164]).data.toList (126:Int).toNat.toUInt8) (fun b g=>Aq _ 126 (by omega) (by omega))).trans (by rw [show (decide (0≤Lib.indexByte (ByteArray.mk #[64,194,169,36,194,174,35,194,164]).data.toList (126:Int).toNat.toUInt8))=Bb 126 from by decide +kernel])
 ·exact (Ar (fun b g=>Zh)).trans rfl
 ·exact (Ar (fun b g=>Zj)).trans rfl
 ·exact (Ar (fun b g=>Zg)).trans rfl
 ·exact (Ar (fun b g=>Zi)).trans rfl
 ·exact (Ar (fun b g=>Zf)).trans rfl
 ·exact (Ar (fun b g=>Ze)).trans rfl
 ·exact (Ar (fun b g=>Zk)).trans rfl
end
end Go.Ev
set_option linter.unusedSectionVars false
namespace Go.Ev
open Go
def ext (own:Nat→Nat) (n k:Nat):Nat→Nat:=fun j=>if j<n then own j else k
def At (own:Nat→Nat) (a:AV) (k:Nat):Prop:=∀ j,a.isAt j→own j=k
def Kp (own:Nat→Nat) (S:Nat→Prop) (g g':H):Prop:=g.n≤g'.n∧∀ j,j<g.n→¬ S (own j)→g'.get j=g.get j
def Agr (n:Nat) (own own':Nat→Nat):Prop:=∀ j,j<n→own' j=own j
theorem Agr.ext {own:Nat→Nat} {n k:Nat}:Agr n own (ext own n k):=fun j hj=>by simp [Go.Ev.ext,hj]
theorem Agr.refl {own:Nat→Nat} {n:Nat}:Agr n own own:=fun _ _=>rfl
theorem Agr.trans {a b c:Nat→Nat} {n m:Nat} (h:Agr n a b) (h2:Agr m b c) (hn:n≤m):Agr n a c:=fun j hj=>(h2 j (by omega)).trans (h j hj)
theorem Kp.trans {own own':Nat→Nat} {S:Nat→Prop} {g g' g'':H} (h:Kp own S g g') (ha:Agr g.n own own') (h2:Kp own' S g' g''):Kp own S g g'' :=
 ⟨by have:=h.1;have:=h2.1;omega,fun j hj hs=>by rw [h2.2 j (by have:=h.1;omega) (by rw [ha j hj];exact hs),h.2 j hj hs]⟩
theorem Kp.le {own:Nat→Nat} {S T:Nat→Prop} {g g':H} (h:Kp own S g g') (hst:∀ k,S k→T k):Kp own T g g':=⟨h.1,fun j hj hs=>h.2 j hj fun q=>hs (hst _ q)⟩
theorem Kp.refl {own:Nat→Nat} {S:Nat→Prop} {g:H}:Kp own S g g:=⟨Nat.le_refl _,fun _ _ _=>rfl⟩
def ST (c:Code') (la ta:AV):Prop:=(FzV 3 la c.l.length (c.l.flatMap Tok.cells)∧FzV 1 ta c.to.length (c.to.flatMap i64c))∧c.l.length≤2000∧c.to.length≤2000∧∀ x ∈ c.to,x≤2000
structure FrO (g:H) (b:Nat) (own:Nat→Nat) (t:Nat) (f:Fm) (id:Nat):Prop where
 ex:∃ la ta sa,FrV g b f id la ta sa∧At own sa (2*t+11)∧ST f.c la ta
 own:own id=2*t+10
theorem FrO.mono {g g':H} {b:Nat} {own own':Nat→Nat} {S:Nat→Prop} {t:Nat} {f:Fm} {id:Nat} (v:FrO g b own t f id) (k:Kp own S g g') (a:Agr g.n own own') (h1:¬ S (2*t+10)) (h2:¬ S (2*t+11)):FrO g' b own' t f id:=by
 obtain ⟨⟨la,ta,sa,hv,hs,hc⟩,ho⟩:=v
 refine ⟨⟨la,ta,sa,hv.mono k.1 (k.2 id hv.lt (by rw [ho];exact h1)) (fun j hj=>k.2 j (hv.st.at_lt hj).2 (by rw [hs j hj];exact h2)),fun j hj=>by rw [a j (hv.st.at_lt hj).2];exact hs j hj,hc⟩,by rw [a id hv.lt];exact ho⟩
def FrsV (g:H) (b:Nat) (own:Nat→Nat):List Fm→List Nat→Prop
 | [],[]=>True
 | f::r,id::l=>FrO g b own r.length f id∧FrsV g b own r l
 | _,_=>False
theorem FrsV.len {g:H} {b:Nat} {own:Nat→Nat}:∀ {fr:List Fm} {l:List Nat},FrsV g b own fr l→l.length=fr.length
 | [],[],_=>rfl
 | _::r,_::l,h=>by simp [FrsV.len h.2]
theorem FrsV.mono {g g':H} {b:Nat} {own own':Nat→Nat} {S:Nat→Prop} (k:Kp own S g g') (a:Agr g.n own own'):∀ {fr:List Fm} {l:List Nat},FrsV g b own fr l→(∀ t,t<fr.length→¬ S (2*t+10)∧¬ S (2*t+11))→FrsV g' b own' fr l
 | [],[],_,_=>trivial
 | f::r,id::l,h,hs=>⟨h.1.mono k a (hs r.length (by simp)).1 (hs r.length (by simp)).2,FrsV.mono k a h.2 fun t ht=>hs t (by simp;omega)⟩
structure MemO (g:H) (b:Nat) (own:Nat→Nat) (M:Nat) (m:Mem):Prop where
 ex:∃ ba da,MemV g b M m ba da∧At own ba 4∧At own da 5
 own:own M=3
theorem MemO.mono {g g':H} {b:Nat} {own own':Nat→Nat} {S:Nat→Prop} {M:Nat} {m:Mem} (v:MemO g b own M m) (k:Kp own S g g') (a:Agr g.n own own') (h:¬ S 3∧¬ S 4∧¬ S 5):MemO g' b own' M m:=by
 obtain ⟨⟨ba,da,hv,h1,h2⟩,ho⟩:=v
 refine ⟨⟨ba,da,hv.mono k.1 (k.2 M hv.lt (by rw [ho];exact h.1)) (fun j hj=>k.2 j (hv.ob.at_lt hj).2 (by rw [h1 j hj];exact h.2.1)) (fun j hj=>k.2 j (hv.od.at_lt hj).2 (by rw [h2 j hj];exact h.2.2)),fun j hj=>by rw [a j (hv.ob.at_lt hj).2];exact h1 j hj,fun j hj=>by rw [a j (hv.od.at_lt hj).2];exact h2 j hj⟩,by rw [a M hv.lt];exact ho⟩
structure RowO (g:H) (b:Nat) (own:Nat→Nat) (R:Nat) (r:Row):Prop where
 ex:∃ la aa,RowV g b R r la aa∧At own la 7∧At own aa 8
 own:own R=6
theorem RowO.mono {g g':H} {b:Nat} {own own':Nat→Nat} {S:Nat→Prop} {R:Nat} {r:Row} (v:RowO g b own R r) (k:Kp own S g g') (a:Agr g.n own own') (h:¬ S 6∧¬ S 7∧¬ S 8):RowO g' b own' R r:=by
 obtain ⟨⟨la,aa,hv,h1,h2⟩,ho⟩:=v
 refine ⟨⟨la,aa,hv.mono k.1 (k.2 R hv.lt (by rw [ho];exact h.1)) (fun j hj=>k.2 j (hv.l.at_lt' hj) (by rw [h1 j hj];exact h.2.1)) (fun j hj=>k.2 j (hv.asks.at_lt hj).2 (by rw [h2 j hj];exact h.2.2)),fun j hj=>by rw [a j (hv.l.at_lt' hj)];exact h1 j hj,fun j hj=>by rw [a j (hv.asks.at_lt hj).2];exact h2 j hj⟩,by rw [a R hv.lt];exact ho⟩
structure Cx where
 X:Nat
 p:Int
 mo:Int
 fa:AV
 fs:List Fn
 ca:AV
 rows:List (AV × AV × Code')
 M:Nat
 R:Nat
def Kt (x:AV × AV × Code'):List AV:=[x.1,x.2.1,.int .i64 x.2.2.args]
structure CxV (g:H) (own:Nat→Nat) (C:Cx):Prop where
 fs:FV g C.fa C.fs
 fo:At own C.fa 0
 ca:FzV 3 C.ca C.rows.length (C.rows.flatMap Kt)
 cd:∀ x ∈ C.rows,ST x.2.2 x.1 x.2.1∧0≤x.2.2.args∧x.2.2.args≤26
theorem CxV.mono {g g':H} {own own':Nat→Nat} {S:Nat→Prop} {C:Cx} (v:CxV g own C) (k:Kp own S g g') (a:Agr g.n own own') (h:¬ S 0):CxV g' own' C :=
 ⟨v.fs.keep k.1 (fun j hj=>k.2 j (v.fs.at_lt' hj) (by rw [v.fo j hj];exact h)),fun j hj=>by rw [a j (v.fs.at_lt' hj)];exact v.fo j hj,v.ca,v.cd⟩
def xC (C:Cx) (fra:AV) (tr val:Int):List AV:=[.int .i64 C.p,.int .i64 C.mo,C.fa,C.ca,.ptr C.M 0,.ptr C.R 0,fra,.int .i64 tr,.int .i64 val]
structure XO (g:H) (b:Nat) (own:Nat→Nat) (C:Cx) (tr val:Int) (ids:List Nat):Prop where
 ex:∃ fra,g.get C.X=some (.cells (xC C fra tr val) 0)∧OW 1 g b fra ids.length (ids.reverse.map fun i=>.ptr i 0)∧At own fra 2
 own:own C.X=1
 bX:b≤C.X
 lt:C.X<g.n
 sm:ids.length≤1000
theorem XO.mono {g g':H} {b:Nat} {own own':Nat→Nat} {S:Nat→Prop} {C:Cx} {tr val:Int} {ids:List Nat} (v:XO g b own C tr val ids) (k:Kp own S g g') (a:Agr g.n own own') (h:¬ S 1∧¬ S 2):XO g' b own' C tr val ids:=by
 obtain ⟨⟨fra,h1,h2,h3⟩,ho,hb,hl,hs⟩:=v
 exact ⟨⟨fra,by rw [k.2 _ hl (by rw [ho];exact h.1)];exact h1,h2.mono k.1 (fun j hj=>k.2 j (h2.at_lt hj).2 (by rw [h3 j hj];exact h.2)),fun j hj=>by rw [a j (h2.at_lt hj).2];exact h3 j hj⟩,by rw [a _ hl];exact ho,hb,by have:=k.1;omega,hs⟩
structure XV (g:H) (b:Nat) (own:Nat→Nat) (C:Cx) (s:Mc) (val:Int) (ids:List Nat):Prop where
 x:XO g b own C s.trap val ids
 cx:CxV g own C
 fr:FrsV g b own s.fr ids
 m:MemO g b own C.M s.m
 r:RowO g b own C.R s.r
 bn:b≤g.n
section
variable {bar b:Nat} {g:H} {own:Nat→Nat} {C:Cx} {tr val:Int} {ids:List Nat}
theorem LS (v:XO g b own C tr val ids) (hb:bar≤b) (ok:Bool) (t:Int) :
  ∃ g',call tb prim Ba [.ptr C.X 0,.bool ok,.int .i64 t] bar g=some (.tup [],g')∧XO g' b own C (Fh ok t tr) val ids∧Kp own (fun k=>k=1) g g'∧g'.n=g.n:=by
 obtain ⟨⟨fra,h1,h2,h3⟩,ho,hbX,hl,hs⟩:=v
 have hbx:bar≤C.X:=Nat.le_trans hb hbX
 cases ok with
 | true =>
  obtain ⟨x,g2,hcall,rfl,rfl⟩:=Aj (o:=call tb prim) (F:=f_engine_runner_stop) (bar:=bar) (h:=g) (args:=[.ptr C.X 0,.bool true,.int .i64 t]) (P:=fun x g2=>x=.tup []∧g2=g) rfl rfl (fun K hK=>by
   simp [f_engine_runner_stop,AO,go_sem,AB]
   simp [go_sem,AN,AM,AA,AE,AD,AC,AV.free.freeL,AV.free,AF,AH]
   exact ⟨_,_,⟨rfl,rfl⟩,hK _ _ ⟨rfl,rfl⟩⟩)
  exact ⟨_,AQ HY hcall,⟨⟨fra,h1,h2,h3⟩,ho,hbX,hl,hs⟩,Kp.refl,rfl⟩
 | false =>
  have hsp:AL (xC C fra tr val) 7 [.int .i64 t]=xC C fra t val:=rfl
  have hle:7+1≤(xC C fra tr val).length:=by simp [xC]
  obtain ⟨cs,hcs⟩:∃ cs,cs=xC C fra tr val:=⟨_,rfl⟩
  rw [← hcs] at h1 hsp hle
  obtain ⟨x,g2,hcall,rfl,rfl⟩:=Aj (o:=call tb prim) (F:=f_engine_runner_stop) (bar:=bar) (h:=g) (args:=[.ptr C.X 0,.bool false,.int .i64 t]) (P:=fun x g2=>x=.tup []∧g2=g.set C.X (.cells (xC C fra t val) 0)) rfl rfl (fun K hK=>by
   simp [f_engine_runner_stop,AO,go_sem,AB,AG,h1,hle,hsp,hbx]
   simp [go_sem,AN,AM,AA,AE,AD,AC,AV.free.freeL,AV.free,AF,AH]
   exact ⟨_,_,⟨rfl,rfl⟩,hK _ _ ⟨rfl,rfl⟩⟩)
  refine ⟨_,AQ HY hcall,⟨⟨fra,by rw [AU,if_pos rfl];rfl,h2.mono (Nat.le_refl _) (fun j hj=>AI (fun q=>by have:=h3 j hj;rw [q,ho] at this;omega)),h3⟩,ho,hbX,hl,hs⟩,⟨Nat.le_refl _,fun j hj hsj=>AI (fun q=>hsj (by rw [q];exact ho))⟩,rfl⟩
end
end Go.Ev
set_option linter.unusedSectionVars false
namespace Go.Ev
open Go
def tS (t:Nat):Nat→Prop:=fun k=>k=2*t+10∨k=2*t+11
section
variable {bar b:Nat} {g:H} {own:Nat→Nat} {t:Nat} {f:Fm} {id:Nat}
theorem Gy (v:FrO g b own t f id) (hb:bar≤b) (hbg:b≤g.n) (hs:f.st.length<3000000) (n:Int) :
  ∃ g' own',call tb prim Az [.ptr id 0,.int .i64 n] bar g=some (.tup [],g')∧FrO g' b own' t { f with st:=n::f.st } id∧Kp own (tS t) g g'∧Agr g.n own own':=by
 obtain ⟨⟨la,ta,sa,hv,hsa,hc⟩,ho⟩:=v
 obtain ⟨g',sa',e,hv',hge,hn,hk⟩:=aB (bar:=bar) hv hb hbg hs n
 refine ⟨g',ext own g.n (2*t+11),e,⟨⟨la,ta,sa',hv',fun j hj=>by have:=hge j hj;simp [ext];omega,hc⟩,by rw [Agr.ext id hv.lt];exact ho⟩,⟨hn,fun j hj hns=>hk j hj (fun q=>hns (.inl (by rw [q];exact ho))) (fun q=>hns (.inr (hsa j q)))⟩,Agr.ext⟩
theorem Gm {n:Int} {st:List Int} (v:FrO g b own t f id) (hst:f.st=n::st) (hb:bar≤b) :
  ∃ g',call tb prim Au [.ptr id 0] bar g=some (.int .i64 n,g')∧FrO g' b own t { f with st:=st } id∧Kp own (tS t) g g':=by
 obtain ⟨⟨la,ta,sa,hv,hsa,hc⟩,ho⟩:=v
 obtain ⟨g',sa',e,hv',hge,hn,hk⟩:=bu (bar:=bar) hv hst hb
 exact ⟨g',e,⟨⟨la,ta,sa',hv',fun j hj=>hsa j (hge j hj),hc⟩,ho⟩,⟨by omega,fun j hj hns=>hk j (fun q=>hns (.inl (by rw [q];exact ho)))⟩⟩
theorem FrO.setC {g':H} {p:Nat} {loc:List Int} {la ta sa:AV} (hv:FrV g b f id la ta sa) (hsa:At own sa (2*t+11)) (hc:ST f.c la ta) (ho:own id=2*t+10) (hl:loc.length=26) (hp:p≤100000) (hg:g'=g.set id (.cells (BG la ta f.c.args p loc sa) 0)) :
  FrO g' b own t { f with at':=p,loc:=loc } id∧Kp own (tS t) g g':=by
 subst hg
 exact ⟨⟨⟨la,ta,sa,⟨by simp [AU],hv.bid,hv.lt,hl,hv.st.mono (Nat.le_refl _) (fun j hj=>AI (fun q=>hv.ne (q ▸ hj))),hv.ne,hv.small,hp⟩,hsa,hc⟩,ho⟩,⟨Nat.le_refl _,fun j hj hns=>AI (fun q=>hns (.inl (by rw [q];exact ho)))⟩⟩
theorem XZ {ta:AV} {l:List Int} (hz:FzV 1 ta l.length (l.flatMap i64c)) {i:Nat} {j:Int} (hi:l[i]? = some j):∃ n cs full,ta=.fz 1 n cs full∧(cs.length=n)=True∧cs[i]? = some (.int .i64 j)∧i<n:=by
 have hlt:=(List.getElem?_eq_some_iff.mp hi).1
 obtain ⟨h1,h2,⟨_,e⟩ | ⟨full,e⟩⟩:=hz
 ·omega
 ·refine ⟨l.length,_,full,e,by simpa using h1,?_,hlt⟩
  have:=Id (c:=i64c) (k:=1) (fun _=>rfl) l i j (by omega) hi
  rw [Nat.mul_one] at this;rw [this];rfl
theorem ZR (v:FrO g b own t f id) (hb:bar≤b) {j:Nat} (hj:f.c.to[f.at']? = some (j:Int)) (X:AV) {s:Int} (hs:s≠63) :
  ∃ g',call tb prim BZ [X,.ptr id 0,.int .i32 s] bar g=some (.tup [],g')∧FrO g' b own t { f with at':=j } id∧Kp own (tS t) g g':=by
 obtain ⟨⟨la,ta,sa,hv,hsa,hc⟩,ho⟩:=v
 have hc':=hc
 obtain ⟨⟨hc1,hc2⟩,hc3,hc4,hc5⟩:=hc'
 obtain ⟨n,cs,full,rfl,hcl,hcj,hin⟩:=XZ hc2 hj
 have hjb:=hc5 _ (List.mem_of_getElem? hj)
 have hfin:=FrO.setC (g':=g.set id (.cells (BG la (.fz 1 n cs full) f.c.args j f.loc sa) 0)) hv hsa hc ho hv.loc (by omega:j≤100000) rfl
 have hl:=hv.loc
 have hget:=hv.get
 have h1:(BG la (.fz 1 n cs full) f.c.args f.at' f.loc sa)[1]? = some (.fz 1 n cs full):=Yw
 have h3:(BG la (.fz 1 n cs full) f.c.args f.at' f.loc sa)[3]? = some (.int .i64 f.at'):=Oc
 have hle:3+1≤(BG la (.fz 1 n cs full) f.c.args f.at' f.loc sa).length:=by rw [Fy hl];omega
 have hsp:AL (BG la (.fz 1 n cs full) f.c.args f.at' f.loc sa) 3 [.int .i64 (j:Int)]=BG la (.fz 1 n cs full) f.c.args j f.loc sa:=Lv
 have hix:AJ (.int .i64 (f.at':Int)) n=some f.at':=by simp only [AJ];rw [if_pos (by omega),Int.toNat_natCast]
 have hbid:bar≤id:=Nat.le_trans hb hv.bid
 have hs':(s == 63)=false:=by simpa using hs
 obtain ⟨fc,hfc⟩:∃ fc,fc=BG la (.fz 1 n cs full) f.c.args f.at' f.loc sa:=⟨_,rfl⟩
 rw [← hfc] at hget h1 h3 hle hsp
 obtain ⟨x,g2,hcall,rfl,rfl⟩:=Aj (o:=call tb prim) (F:=f_engine_runner_goes) (bar:=bar) (h:=g) (args:=[X,.ptr id 0,.int .i32 s]) (P:=fun x g2=>x=.tup []∧g2=g.set id (.cells (BG la (.fz 1 n cs full) f.c.args j f.loc sa) 0)) rfl rfl (fun K hK=>by
  simp [f_engine_runner_goes,AO,go_sem,AB,AG,hs',hget,h1,h3,hix,hcl,hcj,hle,hsp,hbid]
  simp [go_sem,AN,AM,AA,AE,AD,AC,AV.free.freeL,AV.free,AF,AH]
  exact ⟨_,_,⟨rfl,rfl⟩,hK _ _ ⟨rfl,rfl⟩⟩)
 exact ⟨_,AQ Fg hcall,hfin⟩
theorem bG {st:List Int} (v:FrO g b own t f id) (hst:f.st=0::st) (hb:bar≤b) {j:Nat} (hj:f.c.to[f.at']? = some (j:Int)) (X:AV) :
  ∃ g',call tb prim BZ [X,.ptr id 0,.int .i32 63] bar g=some (.tup [],g')∧FrO g' b own t { f with at':=j,st:=st } id∧Kp own (tS t) g g':=by
 obtain ⟨g1,e1,v1,k1⟩:=Gm v hst hb
 obtain ⟨⟨la,ta,sa,hv,hsa,hc⟩,ho⟩:=v1
 have hc':=hc
 obtain ⟨⟨hc1,hc2⟩,hc3,hc4,hc5⟩:=hc'
 simp only at hc2 hc5
 obtain ⟨n,cs,full,rfl,hcl,hcj,hin⟩:=XZ hc2 hj
 have hjb:=hc5 _ (List.mem_of_getElem? hj)
 have hfin:=FrO.setC (g':=g1.set id (.cells (BG la (.fz 1 n cs full) f.c.args j f.loc sa) 0)) hv hsa hc ho hv.loc (by omega:j≤100000) rfl
 have hl:=hv.loc
 have hget:=hv.get
 simp only at hl hget
 have h1:(BG la (.fz 1 n cs full) f.c.args f.at' f.loc sa)[1]? = some (.fz 1 n cs full):=Yw
 have h3:(BG la (.fz 1 n cs full) f.c.args f.at' f.loc sa)[3]? = some (.int .i64 f.at'):=Oc
 have hle:3+1≤(BG la (.fz 1 n cs full) f.c.args f.at' f.loc sa).length:=by rw [Fy hl];omega
 have hsp:AL (BG la (.fz 1 n cs full) f.c.args f.at' f.loc sa) 3 [.int .i64 (j:Int)]=BG la (.fz 1 n cs full) f.c.args j f.loc sa:=Lv
 have hix:AJ (.int .i64 (f.at':Int)) n=some f.at':=by simp only [AJ];rw [if_pos (by omega),Int.toNat_natCast]
 have hbid:bar≤id:=Nat.le_trans hb hv.bid
 obtain ⟨fc,hfc⟩:∃ fc,fc=BG la (.fz 1 n cs full) f.c.args f.at' f.loc sa:=⟨_,rfl⟩
 rw [← hfc] at hget h1 h3 hle hsp
 obtain ⟨x,g2,hcall,rfl,rfl⟩:=Aj (o:=call tb prim) (F:=f_engine_runner_goes) (bar:=bar) (h:=g) (args:=[X,.ptr id 0,.int .i32 63]) (P:=fun x g2=>x=.tup []∧g2=g1.set id (.cells (BG la (.fz 1 n cs full) f.c.args j f.loc sa) 0)) rfl rfl (fun K hK=>by
  simp [f_engine_runner_goes,AO,go_sem,AB,AG,e1,hget,h1,h3,hix,hcl,hcj,hle,hsp,hbid]
  simp [go_sem,AN,AM,AA,AE,AD,AC,AV.free.freeL,AV.free,AF,AH]
  exact ⟨_,_,⟨rfl,rfl⟩,hK _ _ ⟨rfl,rfl⟩⟩)
 exact ⟨_,AQ Fg hcall,hfin.1,k1.trans Agr.refl hfin.2⟩
theorem bH {n:Int} {st:List Int} (v:FrO g b own t f id) (hst:f.st=n::st) (hn:n≠0) (hb:bar≤b) (ha:f.at'<f.c.l.length) (X:AV) :
  ∃ g',call tb prim BZ [X,.ptr id 0,.int .i32 63] bar g=some (.tup [],g')∧FrO g' b own t { f with at':=f.at'+1,st:=st } id∧Kp own (tS t) g g':=by
 obtain ⟨g1,e1,v1,k1⟩:=Gm v hst hb
 obtain ⟨⟨la,ta,sa,hv,hsa,hc⟩,ho⟩:=v1
 have hc':=hc
 obtain ⟨⟨hc1,hc2⟩,hc3,hc4,hc5⟩:=hc'
 simp only at hc3
 have hfin:=FrO.setC (g':=g1.set id (.cells (BG la ta f.c.args (f.at'+1) f.loc sa) 0)) hv hsa hc ho hv.loc (by omega:f.at'+1≤100000) rfl
 have hl:=hv.loc
 have hget:=hv.get
 simp only at hl hget
 have h3:(BG la ta f.c.args f.at' f.loc sa)[3]? = some (.int .i64 f.at'):=Oc
 have hle:3+1≤(BG la ta f.c.args f.at' f.loc sa).length:=by rw [Fy hl];omega
 have hsp:AL (BG la ta f.c.args f.at' f.loc sa) 3 [.int .i64 ((f.at'+1:Nat):Int)]=BG la ta f.c.args (f.at'+1) f.loc sa:=Lv
 have hw:IntKind.i64.wrap ((f.at':Int)+1)=((f.at'+1:Nat):Int):=BF (by omega)
 have hbid:bar≤id:=Nat.le_trans hb hv.bid
 have hn':(n != 0)=true:=by simpa using hn
 obtain ⟨fc,hfc⟩:∃ fc,fc=BG la ta f.c.args f.at' f.loc sa:=⟨_,rfl⟩
 rw [← hfc] at hget h3 hle hsp
 obtain ⟨A,hA⟩:∃ A,A=f.at'+1:=⟨_,rfl⟩
 rw [← hA] at hw hsp hfin
 obtain ⟨x,g2,hcall,rfl,rfl⟩:=Aj (o:=call tb prim) (F:=f_engine_runner_goes) (bar:=bar) (h:=g) (args:=[X,.ptr id 0,.int .i32 63]) (P:=fun x g2=>x=.tup []∧g2=g1.set id (.cells (BG la ta f.c.args A f.loc sa) 0)) rfl rfl (fun K hK=>by
  simp [f_engine_runner_goes,AO,go_sem,AB,AG,e1,hn',hget,h3,hw,hle,hsp,hbid]
  simp [go_sem,AN,AM,AA,AE,AD,AC,AV.free.freeL,AV.free,AF,AH]
  exact ⟨_,_,⟨rfl,rfl⟩,hK _ _ ⟨rfl,rfl⟩⟩)
 rw [← hA]
 exact ⟨_,AQ Fg hcall,hfin.1,k1.trans Agr.refl hfin.2⟩
end
end Go.Ev
set_option linter.unusedSectionVars false
namespace Go.Ev
open Go
def tX (t:Nat):Nat→Prop:=fun k=>k=1∨tS t k
def tM (t:Nat):Nat→Prop:=fun k=>k=1∨k=3∨k=4∨k=5∨tS t k
theorem FR (t:Nat):¬ tS t 1∧¬ tS t 2:=by unfold tS;omega
theorem Mm (t:Nat):¬ tS t 3∧¬ tS t 4∧¬ tS t 5:=by unfold tS;omega
section
variable {bar b:Nat} {g:H} {own:Nat→Nat} {C:Cx} {tr val:Int} {ids:List Nat} {t:Nat} {f:Fm} {id:Nat} {m:Mem}
def Qc (bar b:Nat) (g:H) (own:Nat→Nat) (C:Cx) (val:Int) (ids:List Nat) (t:Nat) (f:Fm) (id:Nat) (sg:Int) (x:Option (List Int × Mem × Int)):Prop :=
 ∀ st m' tr',x=some (st,m',tr')→∃ g' own',call tb prim Cm [.ptr C.X 0,.ptr id 0,.int .i32 sg] bar g=some (.tup [],g')∧FrO g' b own' t { f with st:=st } id∧XO g' b own' C tr' val ids∧MemO g' b own' C.M m'∧Kp own (tM t) g g'∧Agr g.n own own'
theorem FrO.sm (v:FrO g b own t f id):f.st.length≤3000000:=by obtain ⟨⟨_,_,_,hv,_⟩,_⟩:=v;exact hv.small
theorem XO.cell4 (v:XO g b own C tr val ids):∃ cs,g.get C.X=some (.cells cs 0)∧cs[4]? = some (.ptr C.M 0)∧cs[5]? = some (.ptr C.R 0):=by
 obtain ⟨⟨fra,h,_⟩,_⟩:=v;exact ⟨_,h,rfl,rfl⟩
theorem OH {t k:Nat} (h:tS t k):tM t k:=.inr (.inr (.inr (.inr h)))
theorem YG {a:Int} {st:List Int} (vx:XO g b own C tr val ids) (vf:FrO g b own t f id) (vm:MemO g b own C.M m) (hb:bar≤b) (hbg:b≤g.n) (hst:f.st=a::st) {sg:Int} (hsg:sg=64∨sg=169) :
  Qc bar b g own C val ids t f id sg (some ((Ix m a (sg == 64)).1::st,m,Fh (Ix m a (sg == 64)).2 5 tr)):=by
 rintro st0 m0 tr0 h
 cases h
 have hsm:=vf.sm
 rw [hst] at hsm
 obtain ⟨g1,e1,v1,k1⟩:=Gm vf hst hb
 have x1:=vx.mono k1 Agr.refl (FR t)
 have m1:=vm.mono k1 Agr.refl (Mm t)
 have hbg1:b≤g1.n:=Nat.le_trans hbg k1.1
 have m1':=m1
 obtain ⟨⟨ba,da,hmv,_,_⟩,_⟩:=m1'
 have e2:=Zn (bar:=bar) hmv a (sg == 64)
 obtain ⟨g2,e3,x2,k2,n2⟩:=LS x1 hb (Ix m a (sg == 64)).2 5
 have v2:=v1.mono k2 Agr.refl (by omega) (by omega)
 have m2:=m1.mono k2 Agr.refl (by omega)
 obtain ⟨g3,own3,e4,v3,k3,a3⟩:=Gy v2 hb (by omega) (by simp at hsm ⊢;omega) (Ix m a (sg == 64)).1
 have x3:=x2.mono k3 a3 (FR t)
 have m3:=m2.mono k3 a3 (Mm t)
 have hk:Kp own (tM t) g g3:=(k1.le fun k h=>OH h).trans Agr.refl ((k2.le fun k h=>.inl h).trans Agr.refl (k3.le fun k h=>OH h))
 obtain ⟨cs,c1,c2,_⟩:=vx.cell4
 obtain ⟨cs',c1',c2',_⟩:=x1.cell4
 obtain ⟨x,g4,hcall,rfl,rfl⟩:=Aj (o:=call tb prim) (F:=f_engine_runner_memory) (bar:=bar) (h:=g) (args:=[.ptr C.X 0,.ptr id 0,.int .i32 sg]) (P:=fun x g4=>x=.tup []∧g4=g3) rfl rfl (fun K hK=>by
  rcases hsg with rfl | rfl
  ·have hz:((64:Int) == 64)=true:=rfl
   rw [hz] at e2 e3 e4
   simp [f_engine_runner_memory,AO,go_sem,AB,AG,c1,c2,e1,e2,e3,e4]
   refine ⟨Ab rfl ?_,?_⟩
   ·simp [-getElem?_pos,An,Ai,Aa,AS,AT,List.take,List.take_succ_cons,List.take_zero,go_sem,AB,AG,c1,c2,c1',c2',e1,e2,List.getElem?_cons_zero,List.getElem?_cons_succ]
   ·simp [go_sem,AN,AM,AA,AE,AD,AC,AV.free.freeL,AV.free,AF,AH]
    exact ⟨_,_,⟨rfl,rfl⟩,hK _ _ ⟨rfl,rfl⟩⟩
  ·have hz:((169:Int) == 64)=false:=rfl
   rw [hz] at e2 e3 e4
   simp [f_engine_runner_memory,AO,go_sem,AB,AG,c1,c2,e1,e2,e3,e4]
   refine ⟨Ab rfl ?_,?_⟩
   ·simp [-getElem?_pos,An,Ai,Aa,AS,AT,List.take,List.take_succ_cons,List.take_zero,go_sem,AB,AG,c1,c2,c1',c2',e1,e2,List.getElem?_cons_zero,List.getElem?_cons_succ]
   ·simp [go_sem,AN,AM,AA,AE,AD,AC,AV.free.freeL,AV.free,AF,AH]
    exact ⟨_,_,⟨rfl,rfl⟩,hK _ _ ⟨rfl,rfl⟩⟩)
 exact ⟨_,own3,AQ Dd hcall,v3,x3,m3,hk,Agr.trans Agr.refl a3 (by have:=k1.1;have:=k2.1;omega)⟩
theorem Ws {n a:Int} {st:List Int} (vx:XO g b own C tr val ids) (vf:FrO g b own t f id) (vm:MemO g b own C.M m) (hb:bar≤b) (hbg:b≤g.n) (hst:f.st=n::a::st) {sg:Int} (hsg:sg=36∨sg=174) :
  Qc bar b g own C val ids t f id sg (some (st,(IF m a n (sg == 36)).1,Fh (IF m a n (sg == 36)).2 5 tr)):=by
 rintro st0 m0 tr0 h
 cases h
 obtain ⟨g1,e1,v1,k1⟩:=Gm vf hst hb
 have x1:=vx.mono k1 Agr.refl (FR t)
 have m1:=vm.mono k1 Agr.refl (Mm t)
 obtain ⟨g2,e2,v2,k2⟩:=Gm v1 rfl hb
 have x2:=x1.mono k2 Agr.refl (FR t)
 have m2:=m1.mono k2 Agr.refl (Mm t)
 obtain ⟨⟨ba,da,hmv,hba,hda⟩,hoM⟩:=m2
 obtain ⟨g3,e3,hmv3,hn3,hk3⟩:=Yk (bar:=bar) hmv hb a n (sg == 36)
 have k3:Kp own (fun k=>k=4∨k=5) g2 g3:=⟨by omega,fun j hj hs=>hk3 j (fun q=>hs (.inl (hba j q))) (fun q=>hs (.inr (hda j q)))⟩
 have m3:MemO g3 b own C.M (IF m a n (sg == 36)).1:=⟨⟨ba,da,hmv3,hba,hda⟩,hoM⟩
 have v3:=v2.mono k3 Agr.refl (by omega) (by omega)
 have x3:=x2.mono k3 Agr.refl (by omega)
 obtain ⟨g4,e4,x4,k4,n4⟩:=LS x3 hb (IF m a n (sg == 36)).2 5
 have v4:=v3.mono k4 Agr.refl (by omega) (by omega)
 have m4:=m3.mono k4 Agr.refl (by omega)
 have hk:Kp own (tM t) g g4:=(k1.le fun k h=>OH h).trans Agr.refl ((k2.le fun k h=>OH h).trans Agr.refl ((k3.le fun k h=>by unfold tM;omega).trans Agr.refl (k4.le fun k h=>.inl h)))
 obtain ⟨cs,c1,c2,_⟩:=x1.cell4
 obtain ⟨cs',c1',c2',_⟩:=x2.cell4
 obtain ⟨x,g5,hcall,rfl,rfl⟩:=Aj (o:=call tb prim) (F:=f_engine_runner_memory) (bar:=bar) (h:=g) (args:=[.ptr C.X 0,.ptr id 0,.int .i32 sg]) (P:=fun x g5=>x=.tup []∧g5=g4) rfl rfl (fun K hK=>by
  rcases hsg with rfl | rfl
  ·have hz:((36:Int) == 36)=true:=rfl
   rw [hz] at e3 e4
   simp [f_engine_runner_memory,AO,go_sem,AB,AG,c1,c2,e1,e2,e3,e4]
   refine ⟨Ab rfl ?_,?_⟩
   ·simp [-getElem?_pos,An,Ai,Aa,AS,AT,List.take,List.take_succ_cons,List.take_zero,go_sem,AB,AG,c1,c2,c1',c2',e2,List.getElem?_cons_zero,List.getElem?_cons_succ]
   ·simp [go_sem,AN,AM,AA,AE,AD,AC,AV.free.freeL,AV.free,AF,AH]
    exact ⟨_,_,⟨rfl,rfl⟩,hK _ _ ⟨rfl,rfl⟩⟩
  ·have hz:((174:Int) == 36)=false:=rfl
   rw [hz] at e3 e4
   simp [f_engine_runner_memory,AO,go_sem,AB,AG,c1,c2,e1,e2,e3,e4]
   refine ⟨Ab rfl ?_,?_⟩
   ·simp [-getElem?_pos,An,Ai,Aa,AS,AT,List.take,List.take_succ_cons,List.take_zero,go_sem,AB,AG,c1,c2,c1',c2',e2,List.getElem?_cons_zero,List.getElem?_cons_succ]
   ·simp [go_sem,AN,AM,AA,AE,AD,AC,AV.free.freeL,AV.free,AF,AH]
    exact ⟨_,_,⟨rfl,rfl⟩,hK _ _ ⟨rfl,rfl⟩⟩)
 exact ⟨_,own,AQ Dd hcall,v4,x4,m4,hk,Agr.refl⟩
theorem Wr (vx:XO g b own C tr val ids) (vf:FrO g b own t f id) (vm:MemO g b own C.M m) (hb:bar≤b) (hbg:b≤g.n) (hsm:f.st.length<3000000) :
  Qc bar b g own C val ids t f id 35 (some ((m.dirty.length:Int)::f.st,m,tr)):=by
 rintro st0 m0 tr0 h
 cases h
 have vm':=vm
 obtain ⟨⟨ba,da,hmv,_,_⟩,_⟩:=vm'
 have e2:=TZ (bar:=bar) hmv
 obtain ⟨g3,own3,e4,v3,k3,a3⟩:=Gy vf hb hbg hsm (m.dirty.length:Int)
 have x3:=vx.mono k3 a3 (FR t)
 have m3:=vm.mono k3 a3 (Mm t)
 obtain ⟨cs,c1,c2,_⟩:=vx.cell4
 obtain ⟨x,g4,hcall,rfl,rfl⟩:=Aj (o:=call tb prim) (F:=f_engine_runner_memory) (bar:=bar) (h:=g) (args:=[.ptr C.X 0,.ptr id 0,.int .i32 35]) (P:=fun x g4=>x=.tup []∧g4=g3) rfl rfl (fun K hK=>by
  simp [f_engine_runner_memory,AO,go_sem,AB,AG,c1,c2,e2,e4]
  simp [go_sem,AN,AM,AA,AE,AD,AC,AV.free.freeL,AV.free,AF,AH]
  exact ⟨_,_,⟨rfl,rfl⟩,hK _ _ ⟨rfl,rfl⟩⟩)
 exact ⟨_,own3,AQ Dd hcall,v3,x3,m3,k3.le fun k h=>OH h,a3⟩
end
end Go.Ev
set_option linter.unusedSectionVars false
namespace Go.Ev
open Go
def tP (t:Nat):Nat→Prop:=fun k=>k=1∨k=6∨k=7∨k=8∨tS t k
theorem KS (t:Nat):¬ tS t 6∧¬ tS t 7∧¬ tS t 8:=by unfold tS;omega
theorem PB (t:Nat):¬ tS t 0:=by unfold tS;omega
theorem Kl {t k:Nat} (h:tS t k):tP t k:=.inr (.inr (.inr (.inr h)))
theorem Sd {own:Nat→Nat} {S:Nat→Prop} {g:H} {o:HObj}:Kp own S g (g.alloc o):=⟨by simp [AP],fun j hj _=>by rw [AK,if_neg (by omega)]⟩
section
variable {bar b:Nat} {g:H} {own:Nat→Nat} {C:Cx} {tr val:Int} {ids:List Nat} {t:Nat} {f:Fm} {id:Nat} {r:Row}
def GD (k:Tok):AV:=.agg [.int .i32 k.sign,.int .i64 k.n,.int .i32 k.name]
def Ek (g:H) (k:Tok):H:=g.alloc (.cells [.int .i32 k.sign,.int .i64 k.n,.int .i32 k.name] 0)
def Gu (bar b:Nat) (g:H) (own:Nat→Nat) (C:Cx) (val:Int) (ids:List Nat) (t:Nat) (f:Fm) (id:Nat) (k:Tok) (x:Option (List Int × Row × Int)):Prop :=
 ∀ st r' tr',x=some (st,r',tr')→∃ g' own',call tb prim CP [.ptr C.X 0,.ptr id 0,GD k] bar g=some (.tup [],g')∧FrO g' b own' t { f with st:=st } id∧XO g' b own' C tr' val ids∧RowO g' b own' C.R r'∧Kp own (tP t) g g'∧Agr g.n own own'
theorem HR {k:Tok} {x:Option (List Int × Row × Int)} (vx:XO g b own C tr val ids) (vf:FrO g b own t f id) (vr:RowO g b own C.R r)
  (h:XO (Ek g k) b (ext own g.n 0) C tr val ids→FrO (Ek g k) b (ext own g.n 0) t f id→RowO (Ek g k) b (ext own g.n 0) C.R r→(Ek g k).n=g.n+1→ext own g.n 0 g.n=0→(Ek g k).get g.n=some (.cells [.int .i32 k.sign,.int .i64 k.n,.int .i32 k.name] 0) →
   ∀ st r' tr',x=some (st,r',tr')→∃ g' own',call tb prim CP [.ptr C.X 0,.ptr id 0,GD k] bar g=some (.tup [],g')∧FrO g' b own' t { f with st:=st } id∧XO g' b own' C tr' val ids∧RowO g' b own' C.R r'∧Kp (ext own g.n 0) (tP t) (Ek g k) g'∧Agr (g.n+1) (ext own g.n 0) own'):Gu bar b g own C val ids t f id k x:=by
 intro st r' tr' hx
 have kp:Kp own (fun _=>False) g (Ek g k):=Sd
 obtain ⟨g',own',h1,h2,h3,h4,h5,h6⟩:=h (vx.mono kp Agr.ext (by simp)) (vf.mono kp Agr.ext (by simp) (by simp)) (vr.mono kp Agr.ext (by simp)) (by simp [Ek,AP]) (by simp [ext]) (by simp [Ek,AK]) st r' tr' hx
 exact ⟨g',own',h1,h2,h3,h4,(kp.le fun _ q=>q.elim).trans Agr.ext h5,Agr.trans Agr.ext h6 (by omega)⟩
theorem XF {k:Tok} {a:Int} {st:List Int} (vx:XO g b own C tr val ids) (vf:FrO g b own t f id) (vr:RowO g b own C.R r) (hb:bar≤b) (hbg:b≤g.n) (hst:f.st=a::st) (hsm:f.st.length<3000000) (hk:k.sign=46) :
  Gu bar b g own C val ids t f id k (some (a::a::st,r,tr)):=by
 refine HR vx vf vr fun vx vf vr hn ho hg st0 r0 tr0 h=>?_
 cases h
 obtain ⟨g3,own3,e4,v3,k3,a3⟩:=Gy vf hb (by omega) hsm a
 have x3:=vx.mono k3 a3 (FR t)
 have r3:=vr.mono k3 a3 (KS t)
 have vf':=vf
 obtain ⟨⟨la,ta,sa,hv,_,_⟩,_⟩:=vf'
 have hget:=hv.get
 have hl:=hv.loc
 have hos:=hv.st
 rw [hst] at hos hsm
 simp only [List.length_cons] at hos hsm
 obtain ⟨sid,all,full,rfl,hbs,hsl,hgs,hle,htk,hcl,hgi,_,hcut⟩:=hos.cases (by omega)
 have h30:(BG la ta f.c.args f.at' f.loc (.sl sid 0 1 (st.length+1) full))[30]? = some (.sl sid 0 1 (st.length+1) full):=Po hl
 have htop:all[st.length]? = some (.int .i64 a):=by rw [hgi _ (by omega)];exact Us a st
 have hw:IntKind.i64.wrap (st.length:Int)=(st.length:Nat):=BN (by omega) (by omega)
 have hltI:(st.length:Int)<(st.length:Int)+1:=by omega
 obtain ⟨cs,hcs⟩:∃ cs,cs=BG la ta f.c.args f.at' f.loc (.sl sid 0 1 (st.length+1) full):=⟨_,rfl⟩
 rw [← hcs] at hget h30
 rw [show f.st=a::st from hst] at v3
 obtain ⟨x,g4,hcall,rfl,rfl⟩:=Aj (o:=call tb prim) (F:=f_engine_runner_plain) (bar:=bar) (h:=g) (args:=[.ptr C.X 0,.ptr id 0,GD k]) (P:=fun x g4=>x=.tup []∧g4=g3) rfl rfl (fun K hK=>by
  simp [f_engine_runner_plain,AO,go_sem,AB,AG,GD]
  rw [show (g.alloc (.cells [.int .i32 k.sign,.int .i64 k.n,.int .i32 k.name] 0))=Ek g k from rfl,hk]
  simp [go_sem,AB,AG,hget,h30,hw,hltI,AJ,hgs,htop,e4]
  simp [go_sem,AN,AM,AA,AE,AD,AC,AV.free.freeL,AV.free,AF,AH]
  exact ⟨_,_,⟨rfl,rfl⟩,hK _ _ ⟨rfl,rfl⟩⟩)
 exact ⟨_,own3,AQ Bu hcall,v3,x3,r3,k3.le fun k h=>Kl h,by rw [← hn];exact a3⟩
theorem Vb {k:Tok} {a:Int} {st:List Int} (vx:XO g b own C tr val ids) (vf:FrO g b own t f id) (vr:RowO g b own C.R r) (hb:bar≤b) (hbg:b≤g.n) (hst:f.st=a::st) (hk:k.sign=44) :
  Gu bar b g own C val ids t f id k (some (st,r,tr)):=by
 refine HR vx vf vr fun vx vf vr hn ho hg st0 r0 tr0 h=>?_
 cases h
 obtain ⟨g1,e1,v1,k1⟩:=Gm vf hst hb
 have x1:=vx.mono k1 Agr.refl (FR t)
 have r1:=vr.mono k1 Agr.refl (KS t)
 obtain ⟨x,g9,hcall,rfl,rfl⟩:=Aj (o:=call tb prim) (F:=f_engine_runner_plain) (bar:=bar) (h:=g) (args:=[.ptr C.X 0,.ptr id 0,GD k]) (P:=fun x g9=>x=.tup []∧g9=g1) rfl rfl (fun K hK=>by
  simp [f_engine_runner_plain,AO,go_sem,AB,AG,GD]
  rw [show (g.alloc (.cells [.int .i32 k.sign,.int .i64 k.n,.int .i32 k.name] 0))=Ek g k from rfl]
  rw [hk]
  simp [go_sem,AB,AG,e1]
  simp [go_sem,AN,AM,AA,AE,AD,AC,AV.free.freeL,AV.free,AF,AH]
  exact ⟨_,_,⟨rfl,rfl⟩,hK _ _ ⟨rfl,rfl⟩⟩)
 exact ⟨_,_,AQ Bu hcall,v1,x1,r1,k1.le fun k h=>Kl h,Agr.refl⟩
theorem Vd {k:Tok} (vx:XO g b own C tr val ids) (vf:FrO g b own t f id) (vr:RowO g b own C.R r) (hk:k.sign=59∨k.sign=91) :
  Gu bar b g own C val ids t f id k (some (f.st,r,tr)):=by
 refine HR vx vf vr fun vx vf vr hn ho hg st0 r0 tr0 h=>?_
 cases h
 obtain ⟨x,g9,hcall,rfl,rfl⟩:=Aj (o:=call tb prim) (F:=f_engine_runner_plain) (bar:=bar) (h:=g) (args:=[.ptr C.X 0,.ptr id 0,GD k]) (P:=fun x g9=>x=.tup []∧g9=Ek g k) rfl rfl (fun K hK=>by
  rcases hk with hk | hk
  ·simp [f_engine_runner_plain,AO,go_sem,AB,AG,GD]
   rw [show (g.alloc (.cells [.int .i32 k.sign,.int .i64 k.n,.int .i32 k.name] 0))=Ek g k from rfl,hk]
   simp [go_sem,AN,AM,AA,AE,AD,AC,AV.free.freeL,AV.free,AF,AH]
   exact ⟨_,_,⟨rfl,rfl⟩,hK _ _ ⟨rfl,rfl⟩⟩
  ·simp [f_engine_runner_plain,AO,go_sem,AB,AG,GD]
   rw [show (g.alloc (.cells [.int .i32 k.sign,.int .i64 k.n,.int .i32 k.name] 0))=Ek g k from rfl,hk]
   simp [go_sem,AN,AM,AA,AE,AD,AC,AV.free.freeL,AV.free,AF,AH]
   exact ⟨_,_,⟨rfl,rfl⟩,hK _ _ ⟨rfl,rfl⟩⟩)
 exact ⟨_,_,AQ Bu hcall,vf,vx,vr,Kp.refl,Agr.refl⟩
theorem Vc {k:Tok} (vx:XO g b own C tr val ids) (vf:FrO g b own t f id) (vr:RowO g b own C.R r) (hb:bar≤b) (hk:k.sign=161) :
  Gu bar b g own C val ids t f id k (some (f.st,r,2)):=by
 refine HR vx vf vr fun vx vf vr hn ho hg st0 r0 tr0 h=>?_
 cases h
 have vx':=vx
 obtain ⟨⟨fra,h1,h2,h3⟩,hoX,hbX,hl,hs⟩:=vx'
 have hbx:bar≤C.X:=Nat.le_trans hb hbX
 have hsp:AL (xC C fra tr val) 7 [.int .i64 2]=xC C fra 2 val:=rfl
 have hle:7+1≤(xC C fra tr val).length:=by simp [xC]
 obtain ⟨g1,hg1⟩:∃ g1,g1=(Ek g k).set C.X (.cells (xC C fra 2 val) 0):=⟨_,rfl⟩
 have k1:Kp (ext own g.n 0) (fun k=>k=1) (Ek g k) g1:=⟨by rw [hg1,AW];exact Nat.le_refl _,fun j hj hsj=>by rw [hg1,AI (fun q=>hsj (by rw [q];exact hoX))]⟩
 have x1:XO g1 b (ext own g.n 0) C 2 val ids:=⟨⟨fra,by rw [hg1,AU,if_pos rfl],h2.mono k1.1 (fun j hj=>by rw [hg1,AI (fun q=>by have:=h3 j hj;rw [q,hoX] at this;omega)]),h3⟩,hoX,hbX,by rw [hg1,AW];exact hl,hs⟩
 have v1:=vf.mono k1 Agr.refl (by omega) (by omega)
 have r1:=vr.mono k1 Agr.refl (by omega)
 obtain ⟨cs,hcs⟩:∃ cs,cs=xC C fra tr val:=⟨_,rfl⟩
 rw [← hcs] at h1 hsp hle
 obtain ⟨x,g9,hcall,rfl,rfl⟩:=Aj (o:=call tb prim) (F:=f_engine_runner_plain) (bar:=bar) (h:=g) (args:=[.ptr C.X 0,.ptr id 0,GD k]) (P:=fun x g9=>x=.tup []∧g9=g1) rfl rfl (fun K hK=>by
  simp [f_engine_runner_plain,AO,go_sem,AB,AG,GD]
  rw [show (g.alloc (.cells [.int .i32 k.sign,.int .i64 k.n,.int .i32 k.name] 0))=Ek g k from rfl]
  rw [hk]
  simp [go_sem,AB,AG,h1,hle,hsp,hbx,← hg1]
  simp [go_sem,AN,AM,AA,AE,AD,AC,AV.free.freeL,AV.free,AF,AH]
  exact ⟨_,_,⟨rfl,rfl⟩,hK _ _ ⟨rfl,rfl⟩⟩)
 exact ⟨_,_,AQ Bu hcall,v1,x1,r1,k1.le fun k h=>.inl h,Agr.refl⟩
theorem XG {k:Tok} {a:Int} {st:List Int} (vx:XO g b own C tr val ids) (vf:FrO g b own t f id) (vr:RowO g b own C.R r) (hb:bar≤b) (hbg:b≤g.n) (hst:f.st=a::st) (hk:k.sign=33) :
  Gu bar b g own C val ids t f id k (some ((DX k.sign a 0).1::st,r,Fh ((DX k.sign a 0).2 == 0) (DX k.sign a 0).2 tr)):=by
 have hsm:=vf.sm
 rw [hst] at hsm
 refine HR vx vf vr fun vx vf vr hn ho hg st0 r0 tr0 h=>?_
 cases h
 obtain ⟨g1,e1,v1,k1⟩:=Gm vf hst hb
 have x1:=vx.mono k1 Agr.refl (FR t)
 have r1:=vr.mono k1 Agr.refl (KS t)
 have hg1:g1.get g.n=some (.cells [.int .i32 k.sign,.int .i64 k.n,.int .i32 k.name] 0):=by rw [k1.2 g.n (by omega) (by rw [ho];exact PB t)];exact hg
 have e2:=Ys (bar:=bar) (g:=g1) k.sign a 0
 obtain ⟨g2,e3,x2,k2,n2⟩:=LS x1 hb ((DX k.sign a 0).2 == 0) (DX k.sign a 0).2
 have v2:=v1.mono k2 Agr.refl (by omega) (by omega)
 have r2:=r1.mono k2 Agr.refl (by omega)
 obtain ⟨g3,own3,e4,v3,k3,a3⟩:=Gy v2 hb (by have:=k1.1;have:=k2.1;omega) (by simp at hsm ⊢;omega) (DX k.sign a 0).1
 have x3:=x2.mono k3 a3 (FR t)
 have r3:=r2.mono k3 a3 (KS t)
 have hkp:Kp (ext own g.n 0) (tP t) (Ek g k) g3:=(k1.le fun k h=>Kl h).trans Agr.refl ((k2.le fun k h=>.inl h).trans Agr.refl (k3.le fun k h=>Kl h))
 rw [hk] at e2 e3 e4 hg hg1
 obtain ⟨x,g9,hcall,rfl,rfl⟩:=Aj (o:=call tb prim) (F:=f_engine_runner_plain) (bar:=bar) (h:=g) (args:=[.ptr C.X 0,.ptr id 0,GD k]) (P:=fun x g9=>x=.tup []∧g9=g3) rfl rfl (fun K hK=>by
  simp [f_engine_runner_plain,AO,go_sem,AB,AG,GD]
  rw [show (g.alloc (.cells [.int .i32 k.sign,.int .i64 k.n,.int .i32 k.name] 0))=Ek g k from rfl]
  rw [hk]
  simp [go_sem,AB,AG,hg,e1,e2]
  refine ⟨Ab rfl ?_,?_⟩
  ·simp [-getElem?_pos,An,Ai,Aa,AS,AT,List.take,List.take_succ_cons,List.take_zero,go_sem,AB,AG,hg,hg1,e1,e2,List.getElem?_cons_zero,List.getElem?_cons_succ]
  simp [go_sem,AB,AG,e1,e2,e3,e4]
  simp [go_sem,AN,AM,AA,AE,AD,AC,AV.free.freeL,AV.free,AF,AH]
  exact ⟨_,_,⟨rfl,rfl⟩,hK _ _ ⟨rfl,rfl⟩⟩)
 exact ⟨_,own3,AQ Bu hcall,v3,x3,r3,hkp,Agr.trans Agr.refl a3 (by have:=k1.1;have:=k2.1;omega)⟩
theorem XH {k:Tok} {a c:Int} {st:List Int} (vx:XO g b own C tr val ids) (vf:FrO g b own t f id) (vr:RowO g b own C.R r) (hb:bar≤b) (hbg:b≤g.n) (hst:f.st=c::a::st) (hk:k.sign≠46∧k.sign≠44∧k.sign≠59∧k.sign≠91∧k.sign≠161∧k.sign≠960∧k.sign≠33) :
  Gu bar b g own C val ids t f id k (some ((DX k.sign a c).1::st,r,Fh ((DX k.sign a c).2 == 0) (DX k.sign a c).2 tr)):=by
 have hsm:=vf.sm
 rw [hst] at hsm
 refine HR vx vf vr fun vx vf vr hn ho hg st0 r0 tr0 h=>?_
 cases h
 obtain ⟨g0,e0,v0,k0⟩:=Gm vf hst hb
 have x0:=vx.mono k0 Agr.refl (FR t)
 have r0:=vr.mono k0 Agr.refl (KS t)
 obtain ⟨g1,e1,v1,k1⟩:=Gm v0 rfl hb
 have x1:=x0.mono k1 Agr.refl (FR t)
 have r1:=r0.mono k1 Agr.refl (KS t)
 have hg0:g0.get g.n=some (.cells [.int .i32 k.sign,.int .i64 k.n,.int .i32 k.name] 0):=by rw [k0.2 g.n (by omega) (by rw [ho];exact PB t)];exact hg
 have hg1:g1.get g.n=some (.cells [.int .i32 k.sign,.int .i64 k.n,.int .i32 k.name] 0):=by rw [k1.2 g.n (by have:=k0.1;omega) (by rw [ho];exact PB t)];exact hg0
 have e2:=Ys (bar:=bar) (g:=g1) k.sign a c
 obtain ⟨g2,e3,x2,k2,n2⟩:=LS x1 hb ((DX k.sign a c).2 == 0) (DX k.sign a c).2
 have v2:=v1.mono k2 Agr.refl (by omega) (by omega)
 have r2:=r1.mono k2 Agr.refl (by omega)
 obtain ⟨g3,own3,e4,v3,k3,a3⟩:=Gy v2 hb (by have:=k0.1;have:=k1.1;have:=k2.1;omega) (by simp at hsm ⊢;omega) (DX k.sign a c).1
 have x3:=x2.mono k3 a3 (FR t)
 have r3:=r2.mono k3 a3 (KS t)
 have hkp:Kp (ext own g.n 0) (tP t) (Ek g k) g3:=(k0.le fun k h=>Kl h).trans Agr.refl ((k1.le fun k h=>Kl h).trans Agr.refl ((k2.le fun k h=>.inl h).trans Agr.refl (k3.le fun k h=>Kl h)))
 obtain ⟨q1,q2,q3,q4,q5,q6,q7⟩:=hk
 obtain ⟨sg,hsg⟩:∃ sg,sg=k.sign:=⟨_,rfl⟩
 rw [← hsg] at q1 q2 q3 q4 q5 q6 q7 hg0 hg1 e2 e3 e4
 have p1:(sg == 46)=false:=by simpa using q1
 have p2:(sg == 44)=false:=by simpa using q2
 have p3:(sg == 59)=false:=by simpa using q3
 have p4:(sg == 91)=false:=by simpa using q4
 have p5:(sg == 161)=false:=by simpa using q5
 have p6:(sg == 960)=false:=by simpa using q6
 have p7:(sg == 33)=false:=by simpa using q7
 obtain ⟨x,g9,hcall,rfl,rfl⟩:=Aj (o:=call tb prim) (F:=f_engine_runner_plain) (bar:=bar) (h:=g) (args:=[.ptr C.X 0,.ptr id 0,GD k]) (P:=fun x g9=>x=.tup []∧g9=g3) rfl rfl (fun K hK=>by
  simp [f_engine_runner_plain,AO,go_sem,AB,AG,GD]
  rw [show (g.alloc (.cells [.int .i32 k.sign,.int .i64 k.n,.int .i32 k.name] 0))=Ek g k from rfl]
  rw [← hsg]
  simp [go_sem,AB,AG,p1,p2,p3,p4,p5,p6,p7,e0,hg0,e1,e2]
  refine ⟨Ab rfl ?_,?_⟩
  ·simp [-getElem?_pos,An,Ai,Aa,AS,AT,List.take,List.take_succ_cons,List.take_zero,go_sem,AB,AG,hg0,hg1,e1,e2,List.getElem?_cons_zero,List.getElem?_cons_succ]
  simp [go_sem,AB,AG,e0,e1,e2,e3,e4]
  simp [go_sem,AN,AM,AA,AE,AD,AC,AV.free.freeL,AV.free,AF,AH]
  exact ⟨_,_,⟨rfl,rfl⟩,hK _ _ ⟨rfl,rfl⟩⟩)
 exact ⟨_,own3,AQ Bu hcall,v3,x3,r3,hkp,Agr.trans Agr.refl a3 (by have:=k0.1;have:=k1.1;have:=k2.1;omega)⟩
theorem XE {k:Tok} {a:Int} {st:List Int} (vx:XO g b own C tr val ids) (vf:FrO g b own t f id) (vr:RowO g b own C.R r) (hb:bar≤b) (hbg:b≤g.n) (hst:f.st=a::st) (hsr:r.asks.length<2000000) (hk:k.sign=960) :
  Gu bar b g own C val ids t f id k (some ((FY r k.name a).2.1::st,(FY r k.name a).1,Fh (FY r k.name a).2.2 7 tr)):=by
 have hsm:=vf.sm
 rw [hst] at hsm
 refine HR vx vf vr fun vx vf vr hn ho hg st0 r0 tr0 h=>?_
 cases h
 obtain ⟨g1,e1,v1,k1⟩:=Gm vf hst hb
 have x1:=vx.mono k1 Agr.refl (FR t)
 have r1:=vr.mono k1 Agr.refl (KS t)
 have hg1:g1.get g.n=some (.cells [.int .i32 k.sign,.int .i64 k.n,.int .i32 k.name] 0):=by rw [k1.2 g.n (by omega) (by rw [ho];exact PB t)];exact hg
 obtain ⟨⟨la,aa,hrv,hla,haa⟩,hoR⟩:=r1
 obtain ⟨g2,la',aa',e2,hrv',hlat,haat,hn2,hk2⟩:=au (bar:=bar) hrv hb (by have:=k1.1;omega) hsr k.name a
 have k2:Kp (ext own g.n 0) (fun k=>k=6∨k=8) g1 g2:=⟨hn2,fun j hj hs=>hk2 j hj (fun q=>hs (.inl (by rw [q];exact hoR))) (fun q=>hs (.inr (haa j q)))⟩
 have a2:Agr g1.n (ext own g.n 0) (ext (ext own g.n 0) g1.n 8):=Agr.ext
 have r2:RowO g2 b (ext (ext own g.n 0) g1.n 8) C.R (FY r k.name a).1:=⟨⟨la',aa',hrv',fun j hj=>by rw [a2 j (hrv.l.at_lt' (hlat j hj))];exact hla j (hlat j hj),fun j hj=>by have:=haat j hj;simp only [ext];rw [if_neg (by omega)]⟩,by rw [a2 _ hrv.lt];exact hoR⟩
 have v2:=v1.mono k2 a2 (by omega) (by omega)
 have x2:=x1.mono k2 a2 (by omega)
 obtain ⟨g3,e3,x3,k3,n3⟩:=LS x2 hb (FY r k.name a).2.2 7
 have v3:=v2.mono k3 Agr.refl (by omega) (by omega)
 have r3:=r2.mono k3 Agr.refl (by omega)
 obtain ⟨g4,own4,e4,v4,k4,a4⟩:=Gy v3 hb (by have:=k1.1;have:=k2.1;have:=k3.1;omega) (by simp at hsm ⊢;omega) (FY r k.name a).2.1
 have x4:=x3.mono k4 a4 (FR t)
 have r4:=r3.mono k4 a4 (KS t)
 have hkp:Kp (ext own g.n 0) (tP t) (Ek g k) g4:=(k1.le fun k h=>Kl h).trans Agr.refl ((k2.le fun k h=>by unfold tP;omega).trans a2 ((k3.le fun k h=>.inl h).trans Agr.refl (k4.le fun k h=>Kl h)))
 obtain ⟨cs,c1,_,c2⟩:=vx.cell4
 obtain ⟨cs',c1',_,c2'⟩:=x1.cell4
 obtain ⟨x,g9,hcall,rfl,rfl⟩:=Aj (o:=call tb prim) (F:=f_engine_runner_plain) (bar:=bar) (h:=g) (args:=[.ptr C.X 0,.ptr id 0,GD k]) (P:=fun x g9=>x=.tup []∧g9=g4) rfl rfl (fun K hK=>by
  simp [f_engine_runner_plain,AO,go_sem,AB,AG,GD]
  rw [show (g.alloc (.cells [.int .i32 k.sign,.int .i64 k.n,.int .i32 k.name] 0))=Ek g k from rfl]
  rw [hk]
  simp [go_sem,AB,AG,c1,c2,hg,e1,e2]
  refine ⟨⟨Ab rfl ?_,Ab rfl ?_⟩,?_⟩
  ·simp [-getElem?_pos,An,Ai,Aa,AS,AT,List.take,List.take_succ_cons,List.take_zero,go_sem,AB,AG,c1,c2,c1',c2',hg,hg1,e1,e2,List.getElem?_cons_zero,List.getElem?_cons_succ]
  ·simp [-getElem?_pos,An,Ai,Aa,AS,AT,List.take,List.take_succ_cons,List.take_zero,go_sem,AB,AG,c1,c2,c1',c2',hg,hg1,e1,e2,List.getElem?_cons_zero,List.getElem?_cons_succ]
  simp [go_sem,AB,AG,e1,e2,e3,e4]
  simp [go_sem,AN,AM,AA,AE,AD,AC,AV.free.freeL,AV.free,AF,AH]
  exact ⟨_,_,⟨rfl,rfl⟩,hK _ _ ⟨rfl,rfl⟩⟩)
 exact ⟨_,own4,AQ Bu hcall,v4,x4,r4,hkp,Agr.trans (Agr.trans Agr.refl a2 (by have:=k1.1;omega)) a4 (by have:=k1.1;have:=k2.1;have:=k3.1;omega)⟩
end
end Go.Ev
set_option linter.unusedSectionVars false
namespace Go.Ev
open Go
theorem dF (la ta:AV) (a:Int) (h1:la.one=true) (h2:ta.one=true):Af [.nilsl,.nilsl,.int .i64 0,.int .i64 0,.int .i64 0,.int .i64 0,.int .i64 0,.int .i64 0,.int .i64 0,.int .i64 0,.int .i64 0,.int .i64 0,.int .i64 0,.int .i64 0,.int .i64 0,.int .i64 0,.int .i64 0,.int .i64 0,.int .i64 0,.int .i64 0,.int .i64 0,.int .i64 0,.int .i64 0,.int .i64 0,.int .i64 0,.int .i64 0,.int .i64 0,.int .i64 0,.int .i64 0,.int .i64 0,.nilsl] [(0,3,.agg [la,ta,.int .i64 a])]=some (BG la ta a 0 (List.replicate 26 0) .nilsl):=by
 have:(AV.cells (.agg [la,ta,.int .i64 a])).length=3∧0+3≤([.nilsl,.nilsl,.int .i64 0,.int .i64 0,.int .i64 0,.int .i64 0,.int .i64 0,.int .i64 0,.int .i64 0,.int .i64 0,.int .i64 0,.int .i64 0,.int .i64 0,.int .i64 0,.int .i64 0,.int .i64 0,.int .i64 0,.int .i64 0,.int .i64 0,.int .i64 0,.int .i64 0,.int .i64 0,.int .i64 0,.int .i64 0,.int .i64 0,.int .i64 0,.int .i64 0,.int .i64 0,.int .i64 0,.int .i64 0,.nilsl]:List AV).length∧(AV.cells (.agg [la,ta,.int .i64 a])).all AV.one=true:=⟨rfl,by simp,by
  show (la.one&&(ta.one&&(true&&true)))=true
  rw [h1,h2];rfl⟩
 simp only [Af]
 rw [if_pos this]
 rfl
theorem Xr {la ta sa:AV} {a:Int} {p:Nat} {l:List Int} (h:l.length≤26):AL (BG la ta a p (List.replicate 26 0) sa) 4 (l.map (AV.int .i64))=BG la ta a p (l++List.replicate (26 - l.length) 0) sa:=by
 unfold AL BG
 simp only [List.take_succ_cons,List.take_zero,List.length_map]
 have:(la::ta::AV.int .i64 a::AV.int .i64 p::((List.replicate 26 0).map (AV.int .i64)++[sa])).drop (4+l.length)=(List.replicate (26 - l.length) 0).map (AV.int .i64)++[sa]:=by
  rw [show 4+l.length=l.length+1+1+1+1 by omega]
  simp only [List.drop_succ_cons]
  rw [List.drop_append_of_le_length (by simp;omega),List.map_replicate,List.map_replicate,List.drop_replicate]
 rw [this];simp
theorem Om (l:List Int):(l.map (AV.int .i64)).all AV.one=true:=by
 rw [List.all_eq_true];intro x hx;rw [List.mem_map] at hx;obtain ⟨y,_,rfl⟩:=hx;rfl
theorem ZO {la ta sa:AV} {a:Int} {p:Nat} {l:List Int} (h1:la.one=true) (h2:ta.one=true) (h3:sa.one=true):(BG la ta a p l sa).all AV.one=true:=by
 show (la.one&&(ta.one&&(true&&(true&&(l.map (AV.int .i64)++[sa]).all AV.one))))=true
 rw [List.all_append,Om,h1,h2]
 show (true&&(true&&(true&&(true&&(true&&(sa.one&&true))))))=true
 rw [h3];rfl
theorem FzV.one {k:Nat} {a:AV} {n:Nat} {cs:List AV} (v:FzV k a n cs):a.one=true:=by
 obtain ⟨h1,h2,⟨rfl,_⟩ | ⟨f,rfl⟩⟩:=v<;>rfl
section
variable {bar b:Nat} {g:H} {own:Nat→Nat} {C:Cx} {tr val:Int} {ids:List Nat}
theorem Uq (cx:CxV g own C) {k:Nat} {x:AV × AV × Code'} (hx:C.rows[k]? = some x):∃ cs full,C.ca=.fz 3 C.rows.length cs full∧(cs.length=C.rows.length*3)=True∧k<C.rows.length∧k*3+3≤cs.length∧(cs.drop (k*3)).take 3=[x.1,x.2.1,.int .i64 x.2.2.args]∧cs[k*3+2]? = some (.int .i64 x.2.2.args):=by
 have hlt:=(List.getElem?_eq_some_iff.mp hx).1
 obtain ⟨h1,h2,⟨_,e⟩ | ⟨full,e⟩⟩:=cx.ca
 ·omega
 ·exact ⟨_,full,e,by simpa using h1,hlt,by rw [h1];omega,IL (c:=Kt) (k:=3) (fun _=>rfl) C.rows k x hx,JP (c:=Kt) (k:=3) (fun _=>rfl) C.rows k 2 x (by omega) hx⟩
theorem Sm (vx:XO g b own C tr val ids) (cx:CxV g own C) (hb:bar≤b) (hbg:b≤g.n) {k:Nat} {x:AV × AV × Code'} (hx:C.rows[k]? = some x) {aa:AV} {args:List Int} (hv:Vw 1 g aa args.length (args.map (AV.int .i64))) (hl:args.length≤26) (hids:ids.length<1000) :
  ∃ g' own',call tb prim CZ [.ptr C.X 0,.int .i64 k,aa] bar g=some (.tup [],g')∧XO g' b own' C tr val (g.n::ids)∧FrO g' b own' ids.length (Fc x.2.2 args) g.n∧Kp own (fun k=>k=1∨k=2) g g'∧Agr g.n own own':=by
 obtain ⟨⟨fra,h1,h2,h3⟩,hoX,hbX,hlX,hs⟩:=vx
 obtain ⟨cs,full,hca,hcl,hkl,hk3,hrow,_⟩:=Uq cx hx
 obtain ⟨hcd,ha0,ha1⟩:=cx.cd x (List.mem_of_getElem? hx)
 have ho1:x.1.one=true:=hcd.1.1.one
 have ho2:x.2.1.one=true:=hcd.1.2.one
 have hnf:Fc x.2.2 args=⟨x.2.2,0,args++List.replicate (26 - args.length) 0,[]⟩:=by
  unfold Fc;rw [List.take_of_length_le hl]
 
 obtain ⟨g1,hg1⟩:∃ g1,g1=g.alloc (.cells (BG x.1 x.2.1 x.2.2.args 0 (List.replicate 26 0) .nilsl) 0):=⟨_,rfl⟩
 obtain ⟨g2,hg2⟩:∃ g2,g2=g1.set g.n (.cells (BG x.1 x.2.1 x.2.2.args 0 (args++List.replicate (26 - args.length) 0) .nilsl) 0):=⟨_,rfl⟩
 have n1:g1.n=g.n+1:=by rw [hg1];simp [AP]
 have n2:g2.n=g.n+1:=by rw [hg2,AW];exact n1
 have k2:∀ j,j<g.n→g2.get j=g.get j:=fun j hj=>by rw [hg2,AI (by omega),hg1,AK,if_neg (by omega)]
 have gF1:g1.get g.n=some (.cells (BG x.1 x.2.1 x.2.2.args 0 (List.replicate 26 0) .nilsl) 0):=by rw [hg1,AK,if_pos rfl]
 have gF2:g2.get g.n=some (.cells (BG x.1 x.2.1 x.2.2.args 0 (args++List.replicate (26 - args.length) 0) .nilsl) 0):=by rw [hg2,AU,if_pos rfl]
 have gX2:g2.get C.X=some (.cells (xC C fra tr val) 0):=by rw [k2 _ hlX];exact h1
 have o2:OW 1 g2 bar fra ids.length (ids.reverse.map fun i=>.ptr i 0):=(h2.mono (by omega) (fun j hj=>k2 j (h2.at_lt hj).2)).bar_le hb
 obtain ⟨g3,e3,o3,n3,f3⟩:=o2.app (by omega) 8 [.ptr g.n 0] rfl rfl (by omega) (by omega) (by omega)
 obtain ⟨g4,hg4⟩:∃ g4,g4=g3.set C.X (.cells (xC C (.sl (g2.n+1) 0 1 (ids.length+1) false) tr val) 0):=⟨_,rfl⟩
 have hXn:¬ fra.isAt C.X:=fun q=>by have:=h3 _ q;omega
 have gX3:g3.get C.X=some (.cells (xC C fra tr val) 0):=by rw [f3 _ (by omega) hXn];exact gX2
 have hFn:¬ fra.isAt g.n:=fun q=>by have:=(h2.at_lt q).2;omega
 have gF3:g3.get g.n=some (.cells (BG x.1 x.2.1 x.2.2.args 0 (args++List.replicate (26 - args.length) 0) .nilsl) 0):=by rw [f3 _ (by omega) hFn];exact gF2
 have n4:g4.n=g.n+3:=by rw [hg4,AW];omega
 have gF4:g4.get g.n=some (.cells (BG x.1 x.2.1 x.2.2.args 0 (args++List.replicate (26 - args.length) 0) .nilsl) 0):=by rw [hg4,AI (by omega)];exact gF3
 obtain ⟨own',hown⟩:∃ own',own'=ext (ext own g.n (2*ids.length+10)) (g.n+1) 2:=⟨_,rfl⟩
 have hag:Agr g.n own own':=by rw [hown];exact Agr.trans Agr.ext Agr.ext (by omega)
 have hoF:own' g.n=2*ids.length+10:=by rw [hown];simp [ext]
 have ho3:∀ j,g.n+1≤j→own' j=2:=fun j hj=>by rw [hown];simp only [ext];rw [if_neg (by omega)]
 have hXO:XO g4 b own' C tr val (g.n::ids):=by
  refine ⟨⟨.sl (g2.n+1) 0 1 (ids.length+1) false,by rw [hg4,AU,if_pos rfl],?_,fun j hj=>by cases hj;exact ho3 _ (by omega)⟩,by rw [hag _ hlX];exact hoX,hbX,by omega,by simp;omega⟩
  have:=(o3.up (b:=b) (fun j hj=>by cases hj;omega)).mono (h':=g4) (by omega) (fun j hj=>by cases hj;rw [hg4,AI (by omega)])
  simpa using this
 have hFO:FrO g4 b own' ids.length (Fc x.2.2 args) g.n:=by
  rw [hnf]
  exact ⟨⟨x.1,x.2.1,.nilsl,⟨gF4,hbg,by omega,by simp;omega,OW.nil,fun h=>h,by simp,by simp⟩,fun j hj=>hj.elim,hcd⟩,hoF⟩
 have hkp:Kp own (fun k=>k=1∨k=2) g g4:=⟨by omega,fun j hj hs=>by
  rw [hg4,AI (fun q=>hs (.inl (by rw [q];exact hoX))),f3 j (by omega) (fun q=>hs (.inr (h3 j q)))];exact k2 j hj⟩
 have hsrc:source 1 g1 aa=some (args.length,args.map (AV.int .i64)):=Hb (hv.keep (by omega) (fun j hj=>by rw [hg1,AK,if_neg (by have:=hv.at_lt' hj;omega)]))
 have hsp4:AL (BG x.1 x.2.1 x.2.2.args 0 (List.replicate 26 0) .nilsl) 4 ((args.map (AV.int .i64)).take (min args.length 26*1))=BG x.1 x.2.1 x.2.2.args 0 (args++List.replicate (26 - args.length) 0) .nilsl:=by
  rw [List.take_of_length_le (by simp;omega)];exact Xr hl
 have hcpy:Qj bar 1 g1 (.sl g.n 4 1 26 true) args.length (args.map (AV.int .i64))=some (As (min args.length 26:Nat),g2):=by
  have hbn:bar≤g.n:=by omega
  have hle:4+((args.map (AV.int .i64)).take (min args.length 26*1)).length≤(BG x.1 x.2.1 x.2.2.args 0 (List.replicate 26 0) .nilsl).length:=by
   rw [Fy (by simp)];simp;omega
  have hone:((args.map (AV.int .i64)).take (min args.length 26*1)).all AV.one=true:=by
   have:=Om args
   rw [List.all_eq_true] at this ⊢
   exact fun y hy=>this y (List.mem_of_mem_take hy)
  simp only [Qj,if_true]
  unfold Hk
  rw [gF1]
  simp only
  rw [if_pos ⟨hbn,hle,by omega,hone⟩,hsp4,hg2]
  rfl
 have hle31:4+26*1≤(BG x.1 x.2.1 x.2.2.args 0 (List.replicate 26 0) .nilsl).length:=by rw [Fy (by simp)];omega
 have hfone:(BG x.1 x.2.1 x.2.2.args 0 (List.replicate 26 0) .nilsl).all AV.one=true:=ZO ho1 ho2 rfl
 have hX6:AL (xC C fra tr val) 6 [.sl (g2.n+1) 0 1 (ids.length+1) false]=xC C (.sl (g2.n+1) 0 1 (ids.length+1) false) tr val:=rfl
 have hX3:(xC C fra tr val)[3]? = some C.ca:=rfl
 have hX6':(xC C fra tr val)[6]? = some fra:=rfl
 have hXl:6+1≤(xC C fra tr val).length:=by simp [xC]
 have hbx:bar≤C.X:=Nat.le_trans hb hbX
 have hfr1:fra.one=true:=h2.one
 rw [hca] at hX3
 obtain ⟨xc,hxc⟩:∃ xc,xc=xC C fra tr val:=⟨_,rfl⟩
 obtain ⟨f0,hf0⟩:∃ f0,f0=BG x.1 x.2.1 x.2.2.args 0 (List.replicate 26 0) .nilsl:=⟨_,rfl⟩
 have hfill:=dF x.1 x.2.1 x.2.2.args ho1 ho2
 rw [← hf0] at hg1 gF1 hle31 hfone hfill
 rw [← hxc] at h1 gX2 gX3 hX6 hX3 hX6' hXl
 have hix:AJ (.int .i64 (k:Int)) C.rows.length=some k:=by simp only [AJ];rw [if_pos (by omega),Int.toNat_natCast]
 have gX1:g1.get C.X=some (.cells xc 0):=by rw [hg1,AK,if_neg (by omega)];exact h1
 obtain ⟨y,g9,hcall,rfl,rfl⟩:=Aj (o:=call tb prim) (F:=f_engine_runner_call) (bar:=bar) (h:=g) (args:=[.ptr C.X 0,.int .i64 k,aa]) (P:=fun y g9=>y=.tup []∧g9=g4) rfl rfl (fun K hK=>by
  simp [f_engine_runner_call,AO,go_sem,AG,h1,hX3,hcl,hix,hk3,hrow,AX,hfill,hfone,AV.cells]
  rw [← hg1]
  simp [go_sem,AG,Ap,AY,AX,gF1,hle31,hcpy,hsrc,gX2,hX6',Af,ID]
  rw [e3]
  simp [go_sem,AB,AG,gX3,hX6,hXl,hbx]
  rw [← hg4]
  simp [go_sem,AN,AM,AA,AE,AD,AC,AV.free.freeL,AV.free,AF,AH]
  exact ⟨_,_,⟨rfl,rfl⟩,hK _ _ ⟨rfl,rfl⟩⟩)
 exact ⟨_,own',AQ LX hcall,hXO,hFO,hkp,hag⟩
end
end Go.Ev
set_option linter.unusedSectionVars false
namespace Go.Ev
open Go
def tC (t:Nat):Nat→Prop:=fun k=>k=1∨k=2∨tS t k
theorem Li {a:Nat} {st:List Int} (h:a≤st.length):(Ef a st).length=a:=by simp [Ef,h]
theorem OW.split {g:H} {b:Nat} {sa:AV} {st:List Int} (v:OW 1 g b sa st.length (HV st)) {a:Nat} (ha:a≤st.length) (hs:st.length≤3000000) :
  ∃ aa sa',BI 1 sa (some (.int .i64 ((st.length - a:Nat):Int))) none none=some aa∧BI 1 sa none (some (.int .i64 ((st.length - a:Nat):Int))) none=some sa'∧(∀ j,sa'.isAt j→sa.isAt j)∧Vw 1 g aa a ((Ef a st).map (AV.int .i64))∧sa'.one=true∧(∀ j,aa.isAt j→sa.isAt j) ∧
  (∀ g':H,g.n≤g'.n→(∀ j,sa.isAt j→g'.get j=g.get j)→OW 1 g' b sa' (st.length - a) (HV (st.drop a))):=by
 by_cases hz:st.length=0
 ·have:st=[]:=List.length_eq_zero_iff.mp hz
  subst this
  have ha0:a=0:=by simpa using ha
  subst ha0
  obtain ⟨_,_,⟨rfl,_⟩ | ⟨id,rest,full,rfl,h1,h2,h3⟩⟩:=v
  ·exact ⟨.nilsl,.nilsl,rfl,rfl,fun j hj=>hj,⟨rfl,by omega,.inl ⟨rfl,rfl⟩⟩,rfl,fun j hj=>hj,fun g' _ _=>OW.nil⟩
  ·refine ⟨.sl id 0 1 0 full,.sl id 0 1 0 full,by simp [BI,AY,BL],by simp [BI,AY,BL],fun j hj=>hj,⟨rfl,by omega,.inr (.inr ⟨id,0,full,_,0,rfl,h2,h3,by simp,by simp [Ef]⟩)⟩,rfl,fun j hj=>hj,fun g' hn hg=>⟨rfl,rfl,.inr ⟨id,rest,full,rfl,h1,by omega,by rw [hg id rfl];exact h3⟩⟩⟩
 ·obtain ⟨sid,all,full,rfl,hbs,hsl,hgs,hle,htk,hcl,hgi,_,hcut⟩:=v.cases hz
  have hne:st.length - (st.length - a)=a:=by omega
  refine ⟨.sl sid (0+(st.length - a)*1) 1 (st.length - (st.length - a)) (full&&decide (st.length=st.length)),.sl sid 0 1 (st.length - a) (full&&decide (st.length - a=st.length)),?_,?_,fun j hj=>hj,?_,rfl,fun j hj=>hj,fun g' hn hg=>?_⟩
  ·have e1:AY 0 (some (AV.int .i64 ((st.length - a:Nat):Int)))=some (st.length - a):=by simp [AY,BL]
   have e2:∀ n,AY n none=some n:=fun _=>rfl
   simp only [BI,e1,e2]
   rw [if_pos ⟨trivial,by omega,Nat.le_refl _⟩]
  ·have e1:AY st.length (some (AV.int .i64 ((st.length - a:Nat):Int)))=some (st.length - a):=by simp [AY,BL]
   have e2:∀ n,AY n none=some n:=fun _=>rfl
   simp only [BI,e1,e2]
   rw [if_pos ⟨trivial,by omega,by omega⟩]
   simp
  ·rw [hne]
   refine ⟨by simp [Li ha],by omega,.inr (.inr ⟨sid,0+(st.length - a)*1,_,all,0,rfl,hsl,hgs,by omega,?_⟩)⟩
   have:(Ef a st).map (AV.int .i64)=(HV st).drop (st.length - a):=by
    unfold HV Ef;rw [← List.map_drop,List.drop_reverse,hne]
   rw [this,← htk,List.drop_take]
   congr 1
   ·omega
   ·congr 1;omega
  ·have:=hcut g' (st.length - a) (full&&decide (st.length - a=st.length)) (by omega) hn (hg sid rfl)
   have e:(HV st).take ((st.length - a)*1)=HV (st.drop a):=by
    unfold HV;rw [Nat.mul_one,← List.map_take,List.take_reverse,hne]
   rw [e] at this
   exact this
section
variable {bar b:Nat} {g:H} {own:Nat→Nat} {C:Cx} {tr val:Int} {ids:List Nat} {t:Nat} {f:Fm} {id:Nat}
theorem Xl (vx:XO g b own C tr val ids) (cx:CxV g own C) (vf:FrO g b own t f id) (hb:bar≤b) (hbg:b≤g.n) {nm:Int} {k:Nat} (hk:Ay nm C.fs 0=k) {x:AV × AV × Code'} (hx:C.rows[k]? = some x) {a:Nat} (ha:x.2.2.args=a) (hal:a≤f.st.length) (hids:ids.length<1000) :
  ∃ g' own',call tb prim DA [.ptr C.X 0,.ptr id 0,.int .i32 nm] bar g=some (.tup [],g')∧FrO g' b own' t { f with st:=f.st.drop a } id∧Kp own (tC t) g g'∧Agr g.n own own' ∧
   ((32≤ids.length∧XO g' b own' C 6 val ids)∨(ids.length<32∧∃ i,XO g' b own' C tr val (i::ids)∧FrO g' b own' ids.length (Fc x.2.2 (Ef a f.st)) i)):=by
 have vx':=vx
 obtain ⟨⟨fra,h1,h2,h3⟩,hoX,hbX,hlX,hs⟩:=vx'
 have vf':=vf
 obtain ⟨⟨la,ta,sa,hv,hsa,hc⟩,ho⟩:=vf'
 have hst:=hv.st
 have hsm:=hv.small
 obtain ⟨aa,sa',es1,es2,hat,hvw,hone,hat2,hcut⟩:=hst.split hal hsm
 have hl:=hv.loc
 have hget:=hv.get
 have hbid:bar≤id:=Nat.le_trans hb hv.bid
 obtain ⟨cs,full,hca,hcl,hkl,hk3,hrow,hk2⟩:=Uq cx hx
 obtain ⟨hcd,ha0,ha1⟩:=cx.cd x (List.mem_of_getElem? hx)
 have eF:=HD (pr:=prim) (bar:=bar) (h:=g) C.fs C.fa nm C.p C.mo cx.fs
 rw [hk] at eF
 
 obtain ⟨g1,hg1⟩:∃ g1,g1=g.set id (.cells (BG la ta f.c.args f.at' f.loc sa') 0):=⟨_,rfl⟩
 have n1:g1.n=g.n:=by rw [hg1,AW]
 have k1:Kp own (tS t) g g1:=⟨by omega,fun j hj hns=>by rw [hg1];exact AI (fun q=>hns (.inl (by rw [q];exact ho)))⟩
 have hsne:∀ j,sa.isAt j→g1.get j=g.get j:=fun j hj=>by rw [hg1];exact AI (fun q=>hv.ne (q ▸ hj))
 have v1:FrO g1 b own t { f with st:=f.st.drop a } id:=⟨⟨la,ta,sa',⟨by rw [hg1];simp [AU],hv.bid,by have:=hv.lt;omega,hl,by
   have:=hcut g1 (by omega) hsne
   show OW 1 g1 b sa' (f.st.drop a).length (HV (f.st.drop a))
   rw [List.length_drop];exact this,fun q=>hv.ne (hat _ q),by show (f.st.drop a).length≤_;rw [List.length_drop];omega,hv.at1⟩,fun j hj=>hsa j (hat j hj),hc⟩,ho⟩
 have x1:=vx.mono k1 Agr.refl (FR t)
 have c1:=cx.mono k1 Agr.refl (PB t)
 have hvw1:Vw 1 g1 aa a ((Ef a f.st).map (AV.int .i64)):=hvw.keep (by omega) (fun j hj=>hsne j (hat2 j hj))
 
 have h30:(BG la ta f.c.args f.at' f.loc sa)[30]? = some sa:=Po hl
 have hle30:30+1≤(BG la ta f.c.args f.at' f.loc sa).length:=by rw [Fy hl];omega
 have hs30:∀ v,AL (BG la ta f.c.args f.at' f.loc sa) 30 [v]=BG la ta f.c.args f.at' f.loc v:=fun _=>Nf hl
 have hlenS:GC (some sa) g=some (As f.st.length,g):=hst.len g
 have hix:AJ (.int .i64 (k:Int)) C.rows.length=some k:=by simp only [AJ];rw [if_pos (by omega),Int.toNat_natCast]
 have hw:IntKind.i64.wrap ((f.st.length:Int) - (a:Int))=((f.st.length - a:Nat):Int):=by rw [BN (by omega) (by omega)];omega
 have hX02:(xC C fra tr val).take 3=[.int .i64 C.p,.int .i64 C.mo,C.fa]:=rfl
 have hX3:(xC C fra tr val)[3]? = some C.ca:=rfl
 have hX6:(xC C fra tr val)[6]? = some fra:=rfl
 have hX7:AL (xC C fra tr val) 7 [.int .i64 6]=xC C fra 6 val:=rfl
 have hXl:(xC C fra tr val).length=9:=rfl
 have hX0l:3≤(xC C fra tr val).length:=by rw [hXl];omega
 have hXle:7+1≤(xC C fra tr val).length:=by rw [hXl];omega
 have hlenF:∀ g',GC (some fra) g'=some (As ids.length,g'):=fun g'=>h2.len g'
 have hbx:bar≤C.X:=Nat.le_trans hb hbX
 have hXn:¬ C.X=id:=fun q=>by rw [q,ho] at hoX;omega
 have g1X:g1.get C.X=some (.cells (xC C fra tr val) 0):=by rw [hg1,AI hXn];exact h1
 rw [hca] at hX3
 obtain ⟨xc,hxc⟩:∃ xc,xc=xC C fra tr val:=⟨_,rfl⟩
 rw [← hxc] at h1 hX02 hX3 hX6 hX7 hXl hX0l hXle g1X
 obtain ⟨fc,hfc⟩:∃ fc,fc=BG la ta f.c.args f.at' f.loc sa:=⟨_,rfl⟩
 rw [← hfc] at hget h30 hle30 hs30
 rw [ha] at hk2
 by_cases hd:32≤ids.length
 ·obtain ⟨g2,hg2⟩:∃ g2,g2=g1.set C.X (.cells (xC C fra 6 val) 0):=⟨_,rfl⟩
  have k2:Kp own (fun k=>k=1) g1 g2:=⟨by rw [hg2,AW];exact Nat.le_refl _,fun j hj hsj=>by rw [hg2,AI (fun q=>hsj (by rw [q];exact hoX))]⟩
  have hge:decide ((32:Int)≤(ids.length:Int))=true:=by simpa using (by omega:(32:Int)≤(ids.length:Int))
  obtain ⟨y,g9,hcall,rfl,rfl⟩:=Aj (o:=call tb prim) (F:=f_engine_runner_calls) (bar:=bar) (h:=g) (args:=[.ptr C.X 0,.ptr id 0,.int .i32 nm]) (P:=fun y g9=>y=.tup []∧g9=g2) rfl rfl (fun K hK=>by
   simp [f_engine_runner_calls,AO,go_sem,AB,AG,h1,hX0l,hX02,eF,hget,h30,hX3,hlenS,As,hcl,hix,hk2,hw,Ap,es1,es2,hle30,hs30,hbid,hone]
   simp [go_sem,AB,AG,hXn,h1,hX6,hlenF,As,hge]
   simp [go_sem,AB,AG,hXn,h1,hX7,hXle,hbx]
   rw [← hg1,← hg2]
   simp [go_sem,AN,AM,AA,AE,AD,AC,AV.free.freeL,AV.free,AF,AH]
   exact ⟨_,_,⟨rfl,rfl⟩,hK _ _ ⟨rfl,rfl⟩⟩)
  refine ⟨_,own,AQ HB hcall,v1.mono k2 Agr.refl (by omega) (by omega),(k1.le fun k h=>.inr (.inr h)).trans Agr.refl (k2.le fun k h=>.inl h),Agr.refl,.inl ⟨hd,?_⟩⟩
  exact ⟨⟨fra,by rw [hg2,AU,if_pos rfl],h2.mono (by rw [hg2,AW];omega) (fun j hj=>by rw [hg2,AI (fun q=>by have:=h3 j hj;rw [q,hoX] at this;omega),hg1,AI (fun q=>by have:=h3 j hj;rw [q,ho] at this;omega)]),h3⟩,hoX,hbX,by rw [hg2,AW,n1];exact hlX,hs⟩
 ·have hge:decide ((32:Int)≤(ids.length:Int))=false:=by simpa using (by omega:¬ (32:Int)≤(ids.length:Int))
  obtain ⟨g2,own2,e2,x2,f2,k2,a2⟩:=Sm (bar:=bar) (args:=Ef a f.st) x1 c1 hb (by omega) hx (by rw [Li hal];exact hvw1) (by rw [Li hal];omega) hids
  obtain ⟨y,g9,hcall,rfl,rfl⟩:=Aj (o:=call tb prim) (F:=f_engine_runner_calls) (bar:=bar) (h:=g) (args:=[.ptr C.X 0,.ptr id 0,.int .i32 nm]) (P:=fun y g9=>y=.tup []∧g9=g2) rfl rfl (fun K hK=>by
   simp [f_engine_runner_calls,AO,go_sem,AB,AG,h1,hX0l,hX02,eF,hget,h30,hX3,hlenS,As,hcl,hix,hk2,hw,Ap,es1,es2,hle30,hs30,hbid,hone]
   simp [go_sem,AB,AG,hXn,h1,hX6,hlenF,As,hge]
   rw [← hg1]
   simp [go_sem,AB,AG,e2]
   simp [go_sem,AN,AM,AA,AE,AD,AC,AV.free.freeL,AV.free,AF,AH]
   exact ⟨_,_,⟨rfl,rfl⟩,hK _ _ ⟨rfl,rfl⟩⟩)
  refine ⟨_,own2,AQ HB hcall,v1.mono k2 a2 (by omega) (by omega),(k1.le fun k h=>.inr (.inr h)).trans Agr.refl (k2.le fun k h=>by unfold tC;omega),by rw [← n1];exact a2,.inr ⟨by omega,g1.n,x2,f2⟩⟩
end
end Go.Ev
set_option linter.unusedSectionVars false
namespace Go.Ev
open Go
theorem FzV.len {k:Nat} {a:AV} {n:Nat} {cs:List AV} (v:FzV k a n cs) (g:H):GC (some a) g=some (As n,g):=by
 obtain ⟨_,_,⟨rfl,rfl⟩ | ⟨full,rfl⟩⟩:=v<;>rfl
theorem Agr.mono {n m:Nat} {own own':Nat→Nat} (h:Agr n own own') (hm:m≤n):Agr m own own':=fun j hj=>h j (by omega)
def Ea:List Fm→Nat
 | []=>0
 | f::r=>f.st.length+Ea r
def tE:Nat→Prop:=fun k=>k=1∨k=2∨10≤k
section
variable {bar b:Nat} {g:H} {own:Nat→Nat} {C:Cx} {tr val:Int} {ids:List Nat} {t:Nat} {f:Fm} {id i:Nat}
theorem XO.top (v:XO g b own C tr val (i::ids)):∃ sid all full,g.get C.X=some (.cells (xC C (.sl sid 0 1 (ids.length+1) full) tr val) 0)∧g.get sid=some (.cells all 0)∧all[ids.length]? = some (.ptr i 0)∧own sid=2∧sid<g.n∧b≤sid ∧
  (∀ (g':H) (full':Bool) (val':Int),g.n≤g'.n→g'.get sid=g.get sid→g'.get C.X=some (.cells (xC C (.sl sid 0 1 ids.length full') tr val') 0)→XO g' b own C tr val' ids):=by
 obtain ⟨⟨fra,h1,h2,h3⟩,hoX,hbX,hlX,hs⟩:=v
 obtain ⟨sid,all,full,rfl,hbs,hsl,hgs,hle,htk,hcl,hgi,_,hcut⟩:=h2.cases (by simp)
 refine ⟨sid,all,full,h1,hgs,?_,h3 sid rfl,hsl,hbs,fun g' full' val' hn hg hX=>⟨⟨_,hX,?_,fun j hj=>by cases hj;exact h3 sid rfl⟩,hoX,hbX,by omega,by simp at hs;omega⟩⟩
 ·rw [hgi _ (by simp),List.reverse_cons,List.map_append,List.getElem?_append_right (by simp)];simp
 ·have:=hcut g' ids.length full' (by simp) hn hg
  have e:((i::ids).reverse.map fun i=>AV.ptr i 0).take (ids.length*1)=ids.reverse.map fun i=>AV.ptr i 0:=by
   rw [List.reverse_cons,List.map_append,Nat.mul_one]
   have:(ids.reverse.map fun i=>AV.ptr i 0).length=ids.length:=by simp
   rw [← this];exact List.take_left ..
  rw [e] at this
  exact this
theorem RT (C:Cx) (b bar:Nat) (hb:bar≤b) (tr val:Int) (Q:Ex→Env→H→Prop):∀ (r:List Fm) (f:Fm) (i:Nat) (ids:List Nat) (g:H) (own:Nat→Nat),b≤g.n→XO g b own C tr val (i::ids)→FrsV g b own (f::r) (i::ids) →
  (∀ fr,EC f r=some (fr,none)→∀ e g' own' j ids',Kp own tE g g'→Agr g.n own own'→XO g' b own' C tr val (j::ids')→FrsV g' b own' fr (j::ids')→e.get 2=some (.bool true)→Q .ret e g') →
  (∀ fr v,EC f r=some (fr,some v)→∀ e g' own',fr=[]→Kp own tE g g'→Agr g.n own own'→XO g' b own' C tr v []→Q (.exit 0) e g') →
  (∃ out,EC f r=some out)→Ea (f::r)<3000000 →
  CW (call tb prim) bar [0] FZ [(0,.ptr C.X 0)] g Q
 | r,f,i,ids,g,own,hbg,vx,vf,hA,hB,hE,hT=>by
  obtain ⟨sid,all,full,hX,hS,htop,hoS,hlS,hbS,hcut⟩:=vx.top
  have hf:=vf.1
  have hr:=vf.2
  obtain ⟨⟨la,ta,sa,hv,hsa,hc⟩,ho⟩:=hf
  have hget:=hv.get
  have h3:(BG la ta f.c.args f.at' f.loc sa)[3]? = some (.int .i64 f.at'):=Oc
  have h0:(BG la ta f.c.args f.at' f.loc sa)[0]? = some la:=Yv
  have hlen:∀ g,GC (some la) g=some (As f.c.l.length,g):=fun g=>hc.1.1.len g
  have hsm:=vx.sm
  have hw:IntKind.i64.wrap (ids.length:Int)=(ids.length:Nat):=by simp at hsm;exact BN (by omega) (by omega)
  have hX6:∀ fra,(xC C fra tr val)[6]? = some fra:=fun _=>rfl
  have hltI:(ids.length:Int)<(ids.length:Int)+1:=by omega
  obtain ⟨xc,hxc⟩:∃ xc,xc=xC C (.sl sid 0 1 (ids.length+1) full) tr val:=⟨_,rfl⟩
  have hx6:xc[6]? = some (.sl sid 0 1 (ids.length+1) full):=by rw [hxc];rfl
  rw [← hxc] at hX
  obtain ⟨fc,hfc⟩:∃ fc,fc=BG la ta f.c.args f.at' f.loc sa:=⟨_,rfl⟩
  rw [← hfc] at hget h3 h0
  refine Ad FZ.eq_1 ?_
  by_cases hlt:f.at'<f.c.l.length
  ·have hlt':(f.at':Int)<(f.c.l.length:Int):=by omega
   simp [go_sem,AB,AG,hX,hx6,hw,hltI,AJ,hS,htop,hget,h3,h0,hlen,As,hlt']
   exact hA (f::r) (by unfold EC;rw [if_pos hlt]) _ _ own i ids Kp.refl Agr.refl (by rw [hxc] at hX;exact vx) vf rfl
  ·have hlt':¬ (f.at':Int)<(f.c.l.length:Int):=by omega
   obtain ⟨v,st',hst⟩:∃ v st',f.st=v::st':=by
    obtain ⟨out,ho⟩:=hE
    unfold EC at ho
    rw [if_neg hlt] at ho
    cases hs:f.st with
    | nil=>rw [hs] at ho;cases ho
    | cons v st'=>exact ⟨v,st',rfl⟩
   obtain ⟨g1,e1,v1,k1⟩:=Gm vf.1 hst hb
   have x1:=vx.mono k1 Agr.refl (FR _)
   have r1:=FrsV.mono k1 Agr.refl hr (fun t ht=>by unfold tS;omega)
   have hXg1:g1.get C.X=some (.cells xc 0):=by rw [k1.2 _ vx.lt (by rw [vx.own];exact (FR _).1)];exact hX
   have hSg1:g1.get sid=some (.cells all 0):=by rw [k1.2 _ hlS (by rw [hoS];exact (FR _).2)];exact hS
   have hsl:∀ g:H,BI 1 (.sl sid 0 1 (ids.length+1) full) none (some (.int .i64 (ids.length:Nat))) none=some (.sl sid 0 1 ids.length (full&&decide (ids.length=ids.length+1))):=fun _=>by
    simp [BI,AY,BL]
   have hsl2:=hsl g1
   obtain ⟨fl,hfl⟩:∃ fl,fl=(full&&decide (ids.length=ids.length+1)):=⟨_,rfl⟩
   rw [← hfl] at hsl2
   obtain ⟨xd,hxd⟩:∃ xd,xd=xC C (.sl sid 0 1 ids.length fl) tr val:=⟨_,rfl⟩
   have hsp:AL xc 6 [.sl sid 0 1 ids.length fl]=xd:=by rw [hxc,hxd];rfl
   have hle:6+1≤xc.length:=by rw [hxc];simp [xC]
   have hbx:bar≤C.X:=Nat.le_trans hb vx.bX
   obtain ⟨g2,hg2⟩:∃ g2,g2=g1.set C.X (.cells xd 0):=⟨_,rfl⟩
   have n2:g2.n=g1.n:=by rw [hg2,AW]
   have k2:Kp own (fun k=>k=1) g1 g2:=⟨by omega,fun j hj hs=>by rw [hg2,AI (fun q=>hs (by rw [q];exact vx.own))]⟩
   have hSX:sid≠C.X:=fun q=>by have:=vx.own;rw [← q,hoS] at this;omega
   have hX2:g2.get C.X=some (.cells xd 0):=by rw [hg2,AU,if_pos rfl]
   have hS2:g2.get sid=some (.cells all 0):=by rw [hg2,AI hSX];exact hSg1
   have x2:XO g2 b own C tr val ids:=hcut g2 fl val (by have:=k1.1;omega) (by rw [hS2,hS]) (by rw [hX2,hxd])
   have r2:=FrsV.mono k2 Agr.refl r1 (fun t ht=>by omega)
   have k12:Kp own tE g g2:=(k1.le fun k h=>by unfold tS at h;unfold tE;omega).trans Agr.refl (k2.le fun k h=>.inl h)
   have hxd6:xd[6]? = some (.sl sid 0 1 ids.length fl):=by rw [hxd];rfl
   obtain ⟨n,hn⟩:∃ n,n=ids.length:=⟨_,rfl⟩
   rw [← hn] at hw hltI htop hsl2 hsp hxd6 hx6
   simp [go_sem,AB,AG,hX,hx6,hw,hltI,AJ,hS,htop,hget,h3,h0,hlen,As,hlt',e1,hXg1,hSg1,Ap,hsl2,hsp,hle,hbx]
   rw [← hg2]
   cases r with
   | nil =>
    cases ids with
    | cons j l=>exact hr.elim
    | nil =>
     obtain ⟨g3,hg3⟩:∃ g3,g3=g2.set C.X (.cells (xC C (.sl sid 0 1 n fl) tr v) 0):=⟨_,rfl⟩
     have hsp8:AL xd 8 [.int .i64 v]=xC C (.sl sid 0 1 n fl) tr v:=by rw [hxd,hn];rfl
     have hle8:8+1≤xd.length:=by rw [hxd];simp [xC]
     have hn0:n=0:=hn
     have hz:((n:Int) == 0)=true:=by rw [hn0];rfl
     simp [go_sem,AB,AG,hX2,hxd6,hz,hsp8,hle8,hbx,As]
     rw [← hg3]
     refine hB [] v (by unfold EC;rw [if_neg hlt,hst]) _ g3 own rfl (k12.trans Agr.refl ⟨by rw [hg3,AW];exact Nat.le_refl _,fun j hj hs=>by rw [hg3,AI (fun q=>hs (.inl (by rw [q];exact vx.own)))]⟩) Agr.refl ?_
     exact hcut g3 fl v (by have:=k1.1;rw [hg3,AW];omega) (by rw [hg3,AI hSX,hS2,hS]) (by rw [hg3,AU,if_pos rfl,hn])
   | cons f2 r2' =>
    cases ids with
    | nil=>exact hr.elim
    | cons j l =>
     have hn0:n=l.length+1:=hn
     have hz:((n:Int) == 0)=false:=by rw [hn0];simp;omega
     obtain ⟨g3,own3,e3,v3,k3,a3⟩:=Gy r2.1 hb (by have:=k1.1;omega) (by simp only [Ea,hst,List.length_cons] at hT;omega) v
     have x3:=x2.mono k3 a3 (FR _)
     have r3:=FrsV.mono k3 a3 r2.2 (fun t ht=>by unfold tS;omega)
     have htop2:all[l.length]? = some (.ptr j 0):=by
      obtain ⟨sid',all',full',hX',hS',ht',_⟩:=x2.top
      rw [hX2] at hX'
      have e:=congrArg (fun x=>match x with | some (.cells cs _)=>cs[6]? | _=>none) hX'
      simp only [hxd6] at e
      have e':some (AV.sl sid 0 1 n fl)=some (.sl sid' 0 1 (l.length+1) full'):=e
      cases e'
      rw [hS2] at hS'
      cases hS'
      exact ht'
     have hw2:IntKind.i64.wrap ((n:Int) - 1)=(l.length:Nat):=by rw [BN (by omega) (by simp at hsm;omega)];omega
     have hix:AJ (.int .i64 (l.length:Int)) n=some l.length:=by simp only [AJ];rw [if_pos (by omega),Int.toNat_natCast]
     simp [go_sem,AB,AG,hX2,hxd6,hz,hbx,As]
     simp [go_sem,AB,AG,hw2,hix,hS2,htop2,e3]
     have hstep:EC f (f2::r2')=EC { f2 with st:=v::f2.st } r2':=by conv=>lhs;unfold EC;rw [if_neg hlt,hst]
     refine RT C b bar hb tr val Q r2' { f2 with st:=v::f2.st } j l g3 own3 (by have:=k1.1;have:=k3.1;omega) x3 ⟨v3,r3⟩ (fun fr he e g' own' j' ids' kk aa xx ff ee=>?_) (fun fr v' he e g' own' h0 kk aa xx=>?_) (by rw [← hstep];exact hE) ?_
     ·exact hA fr (by rw [hstep];exact he) e g' own' j' ids' (k12.trans Agr.refl ((k3.le fun k h=>by unfold tS at h;unfold tE;omega).trans a3 kk)) (Agr.trans (Agr.mono a3 (by have:=k1.1;omega)) aa (by have:=k1.1;have:=k3.1;omega)) xx ff ee
     ·exact hB fr v' (by rw [hstep];exact he) e g' own' h0 (k12.trans Agr.refl ((k3.le fun k h=>by unfold tS at h;unfold tE;omega).trans a3 kk)) (Agr.trans (Agr.mono a3 (by have:=k1.1;omega)) aa (by have:=k1.1;have:=k3.1;omega)) xx
     ·simp only [Ea,hst,List.length_cons] at hT ⊢;omega
end
end Go.Ev
set_option linter.unusedSectionVars false
namespace Go.Ev
open Go
theorem BR (a b c u v w:AV):AL [a,b,c] 0 [u,v,w]=[u,v,w]:=Eq.trans rfl rfl
def tA:Nat→Prop:=fun k=>k≠0∧k≠9
theorem Vz {k:Nat} (h:tE k):tA k:=by unfold tE at h;unfold tA;omega
theorem WA {t k:Nat} (h:tS t k):tA k:=by unfold tS at h;unfold tA;omega
section
variable {bar b:Nat} {g:H} {own:Nat→Nat} {C:Cx} {tr val:Int} {ids:List Nat} {t:Nat} {f:Fm} {id i:Nat}
def Yp (g':H) (b:Nat) (own':Nat→Nat) (C:Cx) (tr val:Int):List Fm × Option Int→Prop
 | (fr,none)=>∃ j ids',XO g' b own' C tr val (j::ids')∧FrsV g' b own' fr (j::ids')
 | (fr,some v)=>fr=[]∧XO g' b own' C tr v []
theorem Ud {r:List Fm} (hb:bar≤b) (hbg:b≤g.n) (vx:XO g b own C tr val (i::ids)) (vf:FrsV g b own (f::r) (i::ids)) (hT:Ea (f::r)<3000000) {out:List Fm × Option Int} (he:EC f r=some out) :
  ∃ g' own',call tb prim DJ [.ptr C.X 0] bar g=some (.bool out.2.isNone,g')∧Kp own tE g g'∧Agr g.n own own'∧Yp g' b own' C tr val out:=by
 obtain ⟨y,g9,hcall,rfl,own',h1,h2,h3⟩:=Aj (o:=call tb prim) (F:=f_engine_runner_ends) (bar:=bar) (h:=g) (args:=[.ptr C.X 0]) (P:=fun y g9=>y=.bool out.2.isNone∧∃ own',Kp own tE g g9∧Agr g.n own own'∧Yp g9 b own' C tr val out) rfl rfl (fun K hK=>by
  simp [f_engine_runner_ends,AO,go_sem,AB,AG]
  refine RT C b bar hb tr val _ r f i ids g own hbg vx vf (fun fr h e g' own' j ids' k1 k2 k3 k4 k5=>?_) (fun fr v h e g' own' k0 k1 k2 k3=>?_) ⟨out,he⟩ hT
  ·rw [he] at h
   cases h
   simp [go_sem,AN,AM,AA,AE,AD,AC,AV.free.freeL,AV.free,AF,AH,k5]
   exact ⟨_,_,⟨rfl,rfl⟩,hK _ _ ⟨rfl,own',k1,k2,j,ids',k3,k4⟩⟩
  ·rw [he] at h
   cases h
   simp [go_sem,AN,AM,AA,AE,AD,AC,AV.free.freeL,AV.free,AF,AH]
   exact ⟨_,_,⟨rfl,rfl⟩,hK _ _ ⟨rfl,own',k1,k2,k0,k3⟩⟩)
 exact ⟨_,own',AQ LY hcall,h1,h2,h3⟩
def BM (k:Tok):List AV:=[.int .i32 k.sign,.int .i64 k.n,.int .i32 k.name]
def Db (g:H) (k:Tok):H:=(g.alloc (.cells [.int .i32 0,.int .i64 0,.int .i32 0] 0)).set g.n (.cells (BM k) 0)
theorem Gf {k:Tok}:(Db g k).n=g.n+1:=rfl
theorem Ut {k:Tok} {j:Nat} (h:j≠g.n):(Db g k).get j=g.get j:=by rw [Db,AI h,AK,if_neg h]
theorem CK {k:Tok} {S:Nat→Prop}:Kp own S g (Db g k):=⟨by rw [Gf];omega,fun j hj _=>Ut (by omega)⟩
theorem FrO.head (v:FrO g b own t f id) {k:Tok} (hk:f.c.l[f.at']? = some k):∃ fc n cs full,g.get id=some (.cells fc 0)∧fc[0]? = some (.fz 3 n cs full)∧fc[3]? = some (.int .i64 f.at')∧(cs.length=n*3)=True∧AJ (.int .i64 (f.at':Int)) n=some f.at'∧f.at'*3+3≤cs.length∧(cs.drop (f.at'*3)).take 3=BM k∧id<g.n∧f.at'<2000:=by
 obtain ⟨⟨la,ta,sa,hv,hsa,hc⟩,ho⟩:=v
 have hlt:=(List.getElem?_eq_some_iff.mp hk).1
 obtain ⟨⟨hc1,hc2⟩,hc3,_⟩:=hc
 obtain ⟨h1,h2,⟨_,e⟩ | ⟨full,rfl⟩⟩:=hc1
 ·omega
 ·refine ⟨_,_,_,full,hv.get,Yv,Oc,by simpa using h1,by simp only [AJ];rw [if_pos (by omega),Int.toNat_natCast],by rw [h1];omega,?_,hv.lt,by omega⟩
  rw [IL Tok.cells_len f.c.l _ k hk];rfl
theorem FrO.next (v:FrO g b own t f id) (hb:bar≤b) (ha:f.at'<2000):∃ fc fc',g.get id=some (.cells fc 0)∧fc[3]? = some (.int .i64 f.at')∧3+1≤fc.length∧AL fc 3 [.int .i64 ((f.at':Int)+1)]=fc'∧bar≤id∧FrO (g.set id (.cells fc' 0)) b own t { f with at':=f.at'+1 } id∧Kp own (tS t) g (g.set id (.cells fc' 0)):=by
 obtain ⟨⟨la,ta,sa,hv,hsa,hc⟩,ho⟩:=v
 have:=FrO.setC (g':=g.set id (.cells (BG la ta f.c.args (f.at'+1) f.loc sa) 0)) (p:=f.at'+1) hv hsa hc ho hv.loc (by omega) rfl
 exact ⟨_,_,hv.get,Oc,by rw [Fy hv.loc];omega,Lv,Nat.le_trans hb hv.bid,this.1,this.2⟩
theorem PT {s:Int} (h1:¬ (97≤s∧s≤122)) (h2:¬ (65≤s∧s≤90)):(decide (97≤s)=false∧decide (65≤s)=false)∨(decide (97≤s)=false∧decide (65≤s)=true∧decide (s≤90)=false)∨(decide (97≤s)=true∧decide (s≤122)=false∧decide (65≤s)=true∧decide (s≤90)=false):=by
 simp only [decide_eq_true_eq,decide_eq_false_iff_not];omega
theorem FrO.local (v:FrO g b own t f id) {j:Nat} {x:Int} (hx:f.loc[j]? = some x):∃ fc,g.get id=some (.cells fc 0)∧fc[4+j]? = some (.int .i64 x)∧j<26:=by
 obtain ⟨⟨la,ta,sa,hv,hsa,hc⟩,ho⟩:=v
 exact ⟨_,hv.get,ZN hx,by have:=(List.getElem?_eq_some_iff.mp hx).1;rw [hv.loc] at this;exact this⟩
theorem FrO.setLocal (v:FrO g b own t f id) (hb:bar≤b) {j:Nat} (hj:j<26) (x:Int):∃ fc fc',g.get id=some (.cells fc 0)∧(4+j)+1≤fc.length∧AL fc (4+j) [.int .i64 x]=fc'∧bar≤id∧FrO (g.set id (.cells fc' 0)) b own t { f with loc:=f.loc.set j x } id∧Kp own (tS t) g (g.set id (.cells fc' 0)):=by
 obtain ⟨⟨la,ta,sa,hv,hsa,hc⟩,ho⟩:=v
 have:=FrO.setC (g':=g.set id (.cells (BG la ta f.c.args f.at' (f.loc.set j x) sa) 0)) (p:=f.at') (loc:=f.loc.set j x) hv hsa hc ho (by rw [List.length_set];exact hv.loc) hv.at1 rfl
 exact ⟨_,_,hv.get,by rw [Fy hv.loc];omega,VP (by rw [hv.loc];exact hj),Nat.le_trans hb hv.bid,this.1,this.2⟩
theorem Yh {k:Tok} (vf:FrO g b own t f id) (hb:bar≤b) (hbg:b≤g.n) (hk:f.c.l[f.at']? = some k) (hs:k.sign=48) (hsm:f.st.length<3000000) (X:AV) :
  ∃ g' own',call tb prim BD [X,.ptr id 0] bar g=some (.tup [],g')∧FrO g' b own' t { f with at':=f.at'+1,st:=k.n::f.st } id∧Kp own (tS t) g g'∧Agr g.n own own':=by
 obtain ⟨fc,n,cs,full,hget,h0,h3,hcl,hix,hle,hrow,hlt,ha6⟩:=vf.head hk
 have vz:=vf.mono (CK (k:=k) (S:=fun _=>False)) (Agr.ext (k:=0)) (by simp) (by simp)
 have hne:id≠g.n:=by omega
 have hbn:bar≤g.n:=by omega
 have hw:IntKind.i64.wrap ((f.at':Int)+1)=((f.at'+1:Nat):Int):=BF (by omega)
 obtain ⟨g1,own1,e1,v1,k1,a1⟩:=Gy (bar:=bar) vz hb (by rw [Gf];omega) hsm k.n
 obtain ⟨fd,fe,hget1,h31,hle1,hsp1,hbid,v2,k2⟩:=v1.next hb ha6
 simp only at h31 hsp1
 simp only [Db,BM] at e1
 have hq:(k.sign == 48)=true:=by simp [hs]
 obtain ⟨y,g9,hcall,rfl,rfl⟩:=Aj (o:=call tb prim) (F:=f_engine_runner_step) (bar:=bar) (h:=g) (args:=[X,.ptr id 0]) (P:=fun y g9=>y=.tup []∧g9=g1.set id (.cells fe 0)) rfl rfl (fun K hK=>by
  simp [f_engine_runner_step,AO,go_sem,AB,AG,hget,h0,h3,hcl,hix,hle,hrow]
  refine ⟨⟨Ab rfl ?_,Ab rfl ?_,Ab rfl ?_⟩,?_⟩
  ·simp [-getElem?_pos,An,Ai,Aa,AS,AT,List.take,List.take_succ_cons,List.take_zero,go_sem,AB,AG,hget,h0,h3,hcl,hix,hle,hrow,hne,hbn,BM,BR,List.getElem?_cons_zero,List.getElem?_cons_succ]
  ·simp [-getElem?_pos,An,Ai,Aa,AS,AT,List.take,List.take_succ_cons,List.take_zero,go_sem,AB,AG,hget,h0,h3,hcl,hix,hle,hrow,hne,hbn,BM,BR,List.getElem?_cons_zero,List.getElem?_cons_succ]
  ·simp [-getElem?_pos,An,Ai,Aa,AS,AT,List.take,List.take_succ_cons,List.take_zero,go_sem,AB,AG,hget,h0,h3,hcl,hix,hle,hrow,hne,hbn,BM,BR,List.getElem?_cons_zero,List.getElem?_cons_succ]
  simp [go_sem,AB,AG,hget,h0,h3,hcl,hix,hle,hrow,hbn,BM,BR,hq,e1,hget1,h31,hw,hle1,hsp1,hbid]
  simp [go_sem,AN,AM,AA,AE,AD,AC,AV.free.freeL,AV.free,AF,AH]
  exact ⟨_,_,⟨rfl,rfl⟩,hK _ _ ⟨rfl,rfl⟩⟩)
 exact ⟨_,own1,AQ Bz hcall,v2,(CK (k:=k)).trans Agr.ext (k1.trans a1 k2),Agr.trans Agr.ext a1 (by rw [Gf];omega)⟩
theorem Yf {k:Tok} (vf:FrO g b own t f id) (hb:bar≤b) (hbg:b≤g.n) (hk:f.c.l[f.at']? = some k) (hs:97≤k.sign∧k.sign≤122) {x:Int} (hx:f.loc[(k.sign - 97).toNat]? = some x) (hsm:f.st.length<3000000) (X:AV) :
  ∃ g' own',call tb prim BD [X,.ptr id 0] bar g=some (.tup [],g')∧FrO g' b own' t { f with at':=f.at'+1,st:=x::f.st } id∧Kp own (tS t) g g'∧Agr g.n own own':=by
 obtain ⟨fc,n,cs,full,hget,h0,h3,hcl,hix,hle,hrow,hlt,ha6⟩:=vf.head hk
 have vz:=vf.mono (CK (k:=k) (S:=fun _=>False)) (Agr.ext (k:=0)) (by simp) (by simp)
 have hne:id≠g.n:=by omega
 have hbn:bar≤g.n:=by omega
 have hw:IntKind.i64.wrap ((f.at':Int)+1)=((f.at'+1:Nat):Int):=BF (by omega)
 obtain ⟨g1,own1,e1,v1,k1,a1⟩:=Gy (bar:=bar) vz hb (by rw [Gf];omega) hsm x
 obtain ⟨fd,fe,hget1,h31,hle1,hsp1,hbid,v2,k2⟩:=v1.next hb ha6
 simp only at h31 hsp1
 obtain ⟨fg,hfg,hloc,hj⟩:=vf.local hx
 rw [hget] at hfg
 cases hfg
 simp only [Db,BM] at e1
 have hq:(k.sign == 48)=false:=by simp;omega
 have hq2:decide (97≤k.sign)=true:=by simp;omega
 have hq3:decide (k.sign≤122)=true:=by simp;omega
 have hq4:IntKind.i32.wrap (k.sign - 97)=k.sign - 97:=Mp (by omega) (by omega)
 have hq5:AJ (.int .i32 (k.sign - 97)) 26=some (k.sign - 97).toNat:=by simp only [AJ];rw [if_pos (by omega)]
 obtain ⟨y,g9,hcall,rfl,rfl⟩:=Aj (o:=call tb prim) (F:=f_engine_runner_step) (bar:=bar) (h:=g) (args:=[X,.ptr id 0]) (P:=fun y g9=>y=.tup []∧g9=g1.set id (.cells fe 0)) rfl rfl (fun K hK=>by
  simp [f_engine_runner_step,AO,go_sem,AB,AG,hget,h0,h3,hcl,hix,hle,hrow]
  refine ⟨⟨Ab rfl ?_,Ab rfl ?_,Ab rfl ?_⟩,?_⟩
  ·simp [-getElem?_pos,An,Ai,Aa,AS,AT,List.take,List.take_succ_cons,List.take_zero,go_sem,AB,AG,hget,h0,h3,hcl,hix,hle,hrow,hne,hbn,BM,BR,List.getElem?_cons_zero,List.getElem?_cons_succ]
  ·simp [-getElem?_pos,An,Ai,Aa,AS,AT,List.take,List.take_succ_cons,List.take_zero,go_sem,AB,AG,hget,h0,h3,hcl,hix,hle,hrow,hne,hbn,BM,BR,List.getElem?_cons_zero,List.getElem?_cons_succ]
  ·simp [-getElem?_pos,An,Ai,Aa,AS,AT,List.take,List.take_succ_cons,List.take_zero,go_sem,AB,AG,hget,h0,h3,hcl,hix,hle,hrow,hne,hbn,BM,BR,List.getElem?_cons_zero,List.getElem?_cons_succ]
  simp [go_sem,AB,AG,hget,h0,h3,hcl,hix,hle,hrow,hbn,BM,BR,hq,hq2,hq3,hq4,hq5,hne,hloc,e1,hget1,h31,hw,hle1,hsp1,hbid]
  simp [go_sem,AN,AM,AA,AE,AD,AC,AV.free.freeL,AV.free,AF,AH]
  exact ⟨_,_,⟨rfl,rfl⟩,hK _ _ ⟨rfl,rfl⟩⟩)
 exact ⟨_,own1,AQ Bz hcall,v2,(CK (k:=k)).trans Agr.ext (k1.trans a1 k2),Agr.trans Agr.ext a1 (by rw [Gf];omega)⟩
theorem Yi {k:Tok} (vf:FrO g b own t f id) (hb:bar≤b) (hbg:b≤g.n) (hk:f.c.l[f.at']? = some k) (hs:65≤k.sign∧k.sign≤90) {x:Int} {st:List Int} (hst:f.st=x::st) (X:AV) :
  ∃ g' own',call tb prim BD [X,.ptr id 0] bar g=some (.tup [],g')∧FrO g' b own' t { f with at':=f.at'+1,st:=st,loc:=f.loc.set (k.sign - 65).toNat x } id∧Kp own (tS t) g g'∧Agr g.n own own':=by
 obtain ⟨fc,n,cs,full,hget,h0,h3,hcl,hix,hle,hrow,hlt,ha6⟩:=vf.head hk
 have vz:=vf.mono (CK (k:=k) (S:=fun _=>False)) (Agr.ext (k:=0)) (by simp) (by simp)
 have hne:id≠g.n:=by omega
 have hbn:bar≤g.n:=by omega
 have hw:IntKind.i64.wrap ((f.at':Int)+1)=((f.at'+1:Nat):Int):=BF (by omega)
 obtain ⟨g1,e1,w1,l1⟩:=Gm (bar:=bar) vz hst hb
 obtain ⟨fg,fh,hgetL,hleL,hspL,hbid',v1,l2⟩:=w1.setLocal (bar:=bar) (j:=(k.sign - 65).toNat) hb (by omega) x
 obtain ⟨g2,hg2⟩:∃ g2,g2=g1.set id (.cells fh 0):=⟨_,rfl⟩
 rw [← hg2] at v1 l2
 obtain ⟨fd,fe,hget1,h31,hle1,hsp1,hbid,v2,k2⟩:=v1.next hb ha6
 simp only at h31 hsp1
 simp only [Db,BM] at e1
 have hfd:fd=fh:=by rw [hg2,AU,if_pos rfl] at hget1;cases hget1;rfl
 subst hfd
 have hq:(k.sign == 48)=false:=by simp;omega
 have hq2:decide (97≤k.sign)=false:=by simp;omega
 have hq3:decide (65≤k.sign)=true:=by simp;omega
 have hq4:IntKind.i32.wrap (k.sign - 65)=k.sign - 65:=Mp (by omega) (by omega)
 have hq5:AJ (.int .i32 (k.sign - 65)) 26=some (k.sign - 65).toNat:=by simp only [AJ];rw [if_pos (by omega)]
 have hq6:decide (k.sign≤90)=true:=by simp;omega
 obtain ⟨y,g9,hcall,rfl,rfl⟩:=Aj (o:=call tb prim) (F:=f_engine_runner_step) (bar:=bar) (h:=g) (args:=[X,.ptr id 0]) (P:=fun y g9=>y=.tup []∧g9=g2.set id (.cells fe 0)) rfl rfl (fun K hK=>by
  simp [f_engine_runner_step,AO,go_sem,AB,AG,hget,h0,h3,hcl,hix,hle,hrow]
  refine ⟨⟨Ab rfl ?_,Ab rfl ?_,Ab rfl ?_⟩,?_⟩
  ·simp [-getElem?_pos,An,Ai,Aa,AS,AT,List.take,List.take_succ_cons,List.take_zero,go_sem,AB,AG,hget,h0,h3,hcl,hix,hle,hrow,hne,hbn,BM,BR,List.getElem?_cons_zero,List.getElem?_cons_succ]
  ·simp [-getElem?_pos,An,Ai,Aa,AS,AT,List.take,List.take_succ_cons,List.take_zero,go_sem,AB,AG,hget,h0,h3,hcl,hix,hle,hrow,hne,hbn,BM,BR,List.getElem?_cons_zero,List.getElem?_cons_succ]
  ·simp [-getElem?_pos,An,Ai,Aa,AS,AT,List.take,List.take_succ_cons,List.take_zero,go_sem,AB,AG,hget,h0,h3,hcl,hix,hle,hrow,hne,hbn,BM,BR,List.getElem?_cons_zero,List.getElem?_cons_succ]
  simp [go_sem,AB,AG,hget,h0,h3,hcl,hix,hle,hrow,hbn,BM,BR,hq,hq2,hq3,hq4,hq5,hq6,e1,hgetL,hleL,hspL,hbid']
  rw [← hg2]
  simp [go_sem,AB,AG,hget1,h31,hw,hle1,hsp1,hbid]
  simp [go_sem,AN,AM,AA,AE,AD,AC,AV.free.freeL,AV.free,AF,AH]
  exact ⟨_,_,⟨rfl,rfl⟩,hK _ _ ⟨rfl,rfl⟩⟩)
 exact ⟨_,_,AQ Bz hcall,v2,(CK (k:=k)).trans Agr.ext (l1.trans Agr.refl (l2.trans Agr.refl k2)),Agr.ext⟩
end
end Go.Ev
set_option linter.unusedSectionVars false
namespace Go.Ev
open Go
theorem et {t k:Nat} (h:tP t k):tA k:=by unfold tP tS at h;unfold tA;omega
theorem eq {t k:Nat} (h:tM t k):tA k:=by unfold tM tS at h;unfold tA;omega
theorem cV {t k:Nat} (h:tC t k):tA k:=by unfold tC tS at h;unfold tA;omega
theorem Tn {s:Int} (h:HU s=true):(s == 48)=false∧¬ (97≤s∧s≤122)∧¬ (65≤s∧s≤90)∧(s == 955)=false:=by
 have h':s=43∨s=45∨s=42∨s=47∨s=37∨s=38∨s=124∨s=94∨s=60∨s=61∨s=33∨s=46∨s=44∨s=64∨s=36∨s=35∨s=63∨s=58∨s=59∨s=91∨s=93∨s=126∨s=171∨s=187∨s=169∨s=174∨s=164∨s=161∨s=960:=by simpa [HU] using h
 refine ⟨?_,?_,?_,?_⟩
 ·simp;omega
 ·omega
 ·omega
 ·simp;omega
section
variable {bar b:Nat} {g:H} {own:Nat→Nat} {C:Cx} {tr val:Int} {ids:List Nat} {t:Nat} {f:Fm} {id i:Nat} {m:Mem} {r:Row}
theorem XP {k:Tok} (vx:XO g b own C tr val ids) (cx:CxV g own C) (vf:FrO g b own t f id) (hb:bar≤b) (hbg:b≤g.n) (hk:f.c.l[f.at']? = some k) (hs:k.sign=955) {kk:Nat} (hkk:Ay k.name C.fs 0=kk) {x:AV × AV × Code'} (hx:C.rows[kk]? = some x) {a:Nat} (ha:x.2.2.args=a) (hal:a≤f.st.length) (hids:ids.length<1000) :
  ∃ g' own',call tb prim BD [.ptr C.X 0,.ptr id 0] bar g=some (.tup [],g')∧FrO g' b own' t { f with at':=f.at'+1,st:=f.st.drop a } id∧Kp own (tC t) g g'∧Agr g.n own own' ∧
   ((32≤ids.length∧XO g' b own' C 6 val ids)∨(ids.length<32∧∃ i,XO g' b own' C tr val (i::ids)∧FrO g' b own' ids.length (Fc x.2.2 (Ef a f.st)) i)):=by
 obtain ⟨fc,n,cs,full,hget,h0,h3,hcl,hix,hle,hrow,hlt,ha6⟩:=vf.head hk
 have vz:=vf.mono (CK (k:=k) (S:=fun _=>False)) (Agr.ext (k:=0)) (by simp) (by simp)
 have hne:id≠g.n:=by omega
 have hbn:bar≤g.n:=by omega
 have hw:IntKind.i64.wrap ((f.at':Int)+1)=((f.at'+1:Nat):Int):=BF (by omega)
 obtain ⟨fd,fe,hget1,h31,hle1,hsp1,hbid,v1,k1⟩:=vz.next hb ha6
 have xz:=vx.mono (CK (k:=k) (S:=fun _=>False)) (Agr.ext (k:=0)) (by simp)
 have cz:=cx.mono (CK (k:=k) (S:=fun _=>False)) (Agr.ext (k:=0)) (by simp)
 obtain ⟨g1,hg1⟩:∃ g1,g1=(Db g k).set id (.cells fe 0):=⟨_,rfl⟩
 rw [← hg1] at v1 k1
 have x1:=xz.mono k1 Agr.refl (FR t)
 have c1:=cz.mono k1 Agr.refl (PB t)
 obtain ⟨g2,own2,e2,v2,k2,a2,h2⟩:=Xl (bar:=bar) x1 c1 v1 hb (by have:=k1.1;rw [Gf] at this;omega) hkk hx ha hal hids
 have hget':g.get id=some (.cells fd 0):=by rw [Ut hne] at hget1;exact hget1
 rw [hget] at hget'
 cases hget'
 have hq:(k.sign == 48)=false:=by simp [hs]
 have hq2:decide (97≤k.sign)=true:=by simp [hs]
 have hq3:decide (k.sign≤122)=false:=by simp [hs]
 have hq4:decide (65≤k.sign)=true:=by simp [hs]
 have hq5:decide (k.sign≤90)=false:=by simp [hs]
 have hq6:(k.sign == 955)=true:=by simp [hs]
 have hne2:g.n≠id:=fun q=>hne q.symm
 simp only [Db,BM] at hg1
 obtain ⟨y,g9,hcall,rfl,rfl⟩:=Aj (o:=call tb prim) (F:=f_engine_runner_step) (bar:=bar) (h:=g) (args:=[.ptr C.X 0,.ptr id 0]) (P:=fun y g9=>y=.tup []∧g9=g2) rfl rfl (fun K hK=>by
  simp [f_engine_runner_step,AO,go_sem,AB,AG,hget,h0,h3,hcl,hix,hle,hrow]
  refine ⟨⟨Ab rfl ?_,Ab rfl ?_,Ab rfl ?_⟩,?_⟩
  ·simp [-getElem?_pos,An,Ai,Aa,AS,AT,List.take,List.take_succ_cons,List.take_zero,go_sem,AB,AG,hget,h0,h3,hcl,hix,hle,hrow,hne,hbn,BM,BR,List.getElem?_cons_zero,List.getElem?_cons_succ]
  ·simp [-getElem?_pos,An,Ai,Aa,AS,AT,List.take,List.take_succ_cons,List.take_zero,go_sem,AB,AG,hget,h0,h3,hcl,hix,hle,hrow,hne,hbn,BM,BR,List.getElem?_cons_zero,List.getElem?_cons_succ]
  ·simp [-getElem?_pos,An,Ai,Aa,AS,AT,List.take,List.take_succ_cons,List.take_zero,go_sem,AB,AG,hget,h0,h3,hcl,hix,hle,hrow,hne,hbn,BM,BR,List.getElem?_cons_zero,List.getElem?_cons_succ]
  simp [go_sem,AB,AG,hget,h0,h3,hcl,hix,hle,hrow,hbn,BM,BR,hq,hq2,hq3,hq4,hq5,hq6,hne,hne2,h31,hw,hle1,hsp1,hbid]
  rw [← hg1]
  simp [go_sem,AB,AG,e2]
  simp [go_sem,AN,AM,AA,AE,AD,AC,AV.free.freeL,AV.free,AF,AH]
  exact ⟨_,_,⟨rfl,rfl⟩,hK _ _ ⟨rfl,rfl⟩⟩)
 exact ⟨_,_,AQ Bz hcall,v2,(CK (k:=k)).trans Agr.ext ((k1.le fun k h=>.inr (.inr h)).trans Agr.refl k2),Agr.trans Agr.ext a2 (by rw [hg1,AW];exact Nat.le_succ _),h2⟩
theorem XQ {k:Tok} {f':Fm} (vf:FrO g b own t f id) (hb:bar≤b) (hk:f.c.l[f.at']? = some k) (hs:HU k.sign=true) (hgo:Cs k.sign=true) (X:AV)
  (hG:∃ g1,call tb prim BZ [X,.ptr id 0,.int .i32 k.sign] bar (Db g k)=some (.tup [],g1)∧FrO g1 b (ext own g.n 0) t f' id∧Kp (ext own g.n 0) (tS t) (Db g k) g1) (hbg:b≤g.n) :
  ∃ g' own',call tb prim BD [X,.ptr id 0] bar g=some (.tup [],g')∧FrO g' b own' t f' id∧Kp own (tS t) g g'∧Agr g.n own own':=by
 obtain ⟨fc,n,cs,full,hget,h0,h3,hcl,hix,hle,hrow,hlt,ha6⟩:=vf.head hk
 have vz:=vf.mono (CK (k:=k) (S:=fun _=>False)) (Agr.ext (k:=0)) (by simp) (by simp)
 have hne:id≠g.n:=by omega
 have hbn:bar≤g.n:=by omega
 have hw:IntKind.i64.wrap ((f.at':Int)+1)=((f.at'+1:Nat):Int):=BF (by omega)
 obtain ⟨g1,e1,v1,k1⟩:=hG
 obtain ⟨hq,hs1,hs2,hq6⟩:=Tn hs
 have hq7:=fun g=>VJ (bar:=bar) (g:=g) hs
 rw [hgo] at hq7
 simp only [Db,BM] at e1
 obtain ⟨y,g9,hcall,rfl,rfl⟩:=Aj (o:=call tb prim) (F:=f_engine_runner_step) (bar:=bar) (h:=g) (args:=[X,.ptr id 0]) (P:=fun y g9=>y=.tup []∧g9=g1) rfl rfl (fun K hK=>by
  rcases PT hs1 hs2 with ⟨hq2,hq3⟩ | ⟨hq2,hq3,hq4⟩ | ⟨hq2,hq3,hq4,hq5⟩
  ·simp [f_engine_runner_step,AO,go_sem,AB,AG,hget,h0,h3,hcl,hix,hle,hrow]
   refine ⟨⟨Ab rfl ?_,Ab rfl ?_,Ab rfl ?_⟩,?_⟩
   ·simp [-getElem?_pos,An,Ai,Aa,AS,AT,List.take,List.take_succ_cons,List.take_zero,go_sem,AB,AG,hget,h0,h3,hcl,hix,hle,hrow,hne,hbn,BM,BR,List.getElem?_cons_zero,List.getElem?_cons_succ]
   ·simp [-getElem?_pos,An,Ai,Aa,AS,AT,List.take,List.take_succ_cons,List.take_zero,go_sem,AB,AG,hget,h0,h3,hcl,hix,hle,hrow,hne,hbn,BM,BR,List.getElem?_cons_zero,List.getElem?_cons_succ]
   ·simp [-getElem?_pos,An,Ai,Aa,AS,AT,List.take,List.take_succ_cons,List.take_zero,go_sem,AB,AG,hget,h0,h3,hcl,hix,hle,hrow,hne,hbn,BM,BR,List.getElem?_cons_zero,List.getElem?_cons_succ]
   simp [go_sem,AB,AG,hget,h0,h3,hcl,hix,hle,hrow,hbn,BM,BR,hq,hq6,hq7,e1,hq2,hq3]
   simp [go_sem,AN,AM,AA,AE,AD,AC,AV.free.freeL,AV.free,AF,AH]
   exact ⟨_,_,⟨rfl,rfl⟩,hK _ _ ⟨rfl,rfl⟩⟩
  ·simp [f_engine_runner_step,AO,go_sem,AB,AG,hget,h0,h3,hcl,hix,hle,hrow]
   refine ⟨⟨Ab rfl ?_,Ab rfl ?_,Ab rfl ?_⟩,?_⟩
   ·simp [-getElem?_pos,An,Ai,Aa,AS,AT,List.take,List.take_succ_cons,List.take_zero,go_sem,AB,AG,hget,h0,h3,hcl,hix,hle,hrow,hne,hbn,BM,BR,List.getElem?_cons_zero,List.getElem?_cons_succ]
   ·simp [-getElem?_pos,An,Ai,Aa,AS,AT,List.take,List.take_succ_cons,List.take_zero,go_sem,AB,AG,hget,h0,h3,hcl,hix,hle,hrow,hne,hbn,BM,BR,List.getElem?_cons_zero,List.getElem?_cons_succ]
   ·simp [-getElem?_pos,An,Ai,Aa,AS,AT,List.take,List.take_succ_cons,List.take_zero,go_sem,AB,AG,hget,h0,h3,hcl,hix,hle,hrow,hne,hbn,BM,BR,List.getElem?_cons_zero,List.getElem?_cons_succ]
   simp [go_sem,AB,AG,hget,h0,h3,hcl,hix,hle,hrow,hbn,BM,BR,hq,hq6,hq7,e1,hq2,hq3,hq4]
   simp [go_sem,AN,AM,AA,AE,AD,AC,AV.free.freeL,AV.free,AF,AH]
   exact ⟨_,_,⟨rfl,rfl⟩,hK _ _ ⟨rfl,rfl⟩⟩
  ·simp [f_engine_runner_step,AO,go_sem,AB,AG,hget,h0,h3,hcl,hix,hle,hrow]
   refine ⟨⟨Ab rfl ?_,Ab rfl ?_,Ab rfl ?_⟩,?_⟩
   ·simp [-getElem?_pos,An,Ai,Aa,AS,AT,List.take,List.take_succ_cons,List.take_zero,go_sem,AB,AG,hget,h0,h3,hcl,hix,hle,hrow,hne,hbn,BM,BR,List.getElem?_cons_zero,List.getElem?_cons_succ]
   ·simp [-getElem?_pos,An,Ai,Aa,AS,AT,List.take,List.take_succ_cons,List.take_zero,go_sem,AB,AG,hget,h0,h3,hcl,hix,hle,hrow,hne,hbn,BM,BR,List.getElem?_cons_zero,List.getElem?_cons_succ]
   ·simp [-getElem?_pos,An,Ai,Aa,AS,AT,List.take,List.take_succ_cons,List.take_zero,go_sem,AB,AG,hget,h0,h3,hcl,hix,hle,hrow,hne,hbn,BM,BR,List.getElem?_cons_zero,List.getElem?_cons_succ]
   simp [go_sem,AB,AG,hget,h0,h3,hcl,hix,hle,hrow,hbn,BM,BR,hq,hq6,hq7,e1,hq2,hq3,hq4,hq5]
   simp [go_sem,AN,AM,AA,AE,AD,AC,AV.free.freeL,AV.free,AF,AH]
   exact ⟨_,_,⟨rfl,rfl⟩,hK _ _ ⟨rfl,rfl⟩⟩)
 exact ⟨_,_,AQ Bz hcall,v1,(CK (k:=k)).trans Agr.ext k1,Agr.ext⟩
theorem Yg {k:Tok} {x:Option (List Int × Mem × Int)} (vx:XO g b own C tr val ids) (vf:FrO g b own t f id) (vm:MemO g b own C.M m) (hb:bar≤b) (hbg:b≤g.n) (hk:f.c.l[f.at']? = some k) (hs:HU k.sign=true) (hgo:Cs k.sign=false) (hme:Bb k.sign=true)
  (hM:∀ own0:Nat→Nat,XO (Db g k) b own0 C tr val ids→FrO (Db g k) b own0 t f id→MemO (Db g k) b own0 C.M m→b≤(Db g k).n→Qc bar b (Db g k) own0 C val ids t f id k.sign x) :
  ∀ st m' tr',x=some (st,m',tr')→∃ g' own',call tb prim BD [.ptr C.X 0,.ptr id 0] bar g=some (.tup [],g')∧FrO g' b own' t { f with at':=f.at'+1,st:=st } id∧XO g' b own' C tr' val ids∧MemO g' b own' C.M m'∧Kp own (tM t) g g'∧Agr g.n own own':=by
 intro st m' tr' hxx
 obtain ⟨fc,n,cs,full,hget,h0,h3,hcl,hix,hle,hrow,hlt,ha6⟩:=vf.head hk
 have vz:=vf.mono (CK (k:=k) (S:=fun _=>False)) (Agr.ext (k:=0)) (by simp) (by simp)
 have hne:id≠g.n:=by omega
 have hbn:bar≤g.n:=by omega
 have hw:IntKind.i64.wrap ((f.at':Int)+1)=((f.at'+1:Nat):Int):=BF (by omega)
 have xz:=vx.mono (CK (k:=k) (S:=fun _=>False)) (Agr.ext (k:=0)) (by simp)
 have mz:=vm.mono (CK (k:=k) (S:=fun _=>False)) (Agr.ext (k:=0)) (by simp)
 obtain ⟨g1,own1,e1,v1,x1,m1,k1,a1⟩:=hM _ xz vz mz (by rw [Gf];omega) st m' tr' hxx
 obtain ⟨fd,fe,hget1,h31,hle1,hsp1,hbid,v2,k2⟩:=v1.next hb ha6
 simp only at h31 hsp1
 have x2:=x1.mono k2 Agr.refl (FR t)
 have m2:=m1.mono k2 Agr.refl (Mm t)
 obtain ⟨hq,hs1,hs2,hq6⟩:=Tn hs
 have hq7:=fun g=>VJ (bar:=bar) (g:=g) hs
 rw [hgo] at hq7
 have hq8:=fun g=>Yr (bar:=bar) (g:=g) hs
 rw [hme] at hq8
 simp only [Db,BM] at e1
 obtain ⟨y,g9,hcall,rfl,rfl⟩:=Aj (o:=call tb prim) (F:=f_engine_runner_step) (bar:=bar) (h:=g) (args:=[.ptr C.X 0,.ptr id 0]) (P:=fun y g9=>y=.tup []∧g9=g1.set id (.cells fe 0)) rfl rfl (fun K hK=>by
  rcases PT hs1 hs2 with ⟨hq2,hq3⟩ | ⟨hq2,hq3,hq4⟩ | ⟨hq2,hq3,hq4,hq5⟩
  ·simp [f_engine_runner_step,AO,go_sem,AB,AG,hget,h0,h3,hcl,hix,hle,hrow]
   refine ⟨⟨Ab rfl ?_,Ab rfl ?_,Ab rfl ?_⟩,?_⟩
   ·simp [-getElem?_pos,An,Ai,Aa,AS,AT,List.take,List.take_succ_cons,List.take_zero,go_sem,AB,AG,hget,h0,h3,hcl,hix,hle,hrow,hne,hbn,BM,BR,List.getElem?_cons_zero,List.getElem?_cons_succ]
   ·simp [-getElem?_pos,An,Ai,Aa,AS,AT,List.take,List.take_succ_cons,List.take_zero,go_sem,AB,AG,hget,h0,h3,hcl,hix,hle,hrow,hne,hbn,BM,BR,List.getElem?_cons_zero,List.getElem?_cons_succ]
   ·simp [-getElem?_pos,An,Ai,Aa,AS,AT,List.take,List.take_succ_cons,List.take_zero,go_sem,AB,AG,hget,h0,h3,hcl,hix,hle,hrow,hne,hbn,BM,BR,List.getElem?_cons_zero,List.getElem?_cons_succ]
   simp [go_sem,AB,AG,hget,h0,h3,hcl,hix,hle,hrow,hbn,BM,BR,hq,hq6,hq7,hq8,e1,hget1,h31,hw,hle1,hsp1,hbid,hq2,hq3]
   simp [go_sem,AN,AM,AA,AE,AD,AC,AV.free.freeL,AV.free,AF,AH]
   exact ⟨_,_,⟨rfl,rfl⟩,hK _ _ ⟨rfl,rfl⟩⟩
  ·simp [f_engine_runner_step,AO,go_sem,AB,AG,hget,h0,h3,hcl,hix,hle,hrow]
   refine ⟨⟨Ab rfl ?_,Ab rfl ?_,Ab rfl ?_⟩,?_⟩
   ·simp [-getElem?_pos,An,Ai,Aa,AS,AT,List.take,List.take_succ_cons,List.take_zero,go_sem,AB,AG,hget,h0,h3,hcl,hix,hle,hrow,hne,hbn,BM,BR,List.getElem?_cons_zero,List.getElem?_cons_succ]
   ·simp [-getElem?_pos,An,Ai,Aa,AS,AT,List.take,List.take_succ_cons,List.take_zero,go_sem,AB,AG,hget,h0,h3,hcl,hix,hle,hrow,hne,hbn,BM,BR,List.getElem?_cons_zero,List.getElem?_cons_succ]
   ·simp [-getElem?_pos,An,Ai,Aa,AS,AT,List.take,List.take_succ_cons,List.take_zero,go_sem,AB,AG,hget,h0,h3,hcl,hix,hle,hrow,hne,hbn,BM,BR,List.getElem?_cons_zero,List.getElem?_cons_succ]
   simp [go_sem,AB,AG,hget,h0,h3,hcl,hix,hle,hrow,hbn,BM,BR,hq,hq6,hq7,hq8,e1,hget1,h31,hw,hle1,hsp1,hbid,hq2,hq3,hq4]
   simp [go_sem,AN,AM,AA,AE,AD,AC,AV.free.freeL,AV.free,AF,AH]
   exact ⟨_,_,⟨rfl,rfl⟩,hK _ _ ⟨rfl,rfl⟩⟩
  ·simp [f_engine_runner_step,AO,go_sem,AB,AG,hget,h0,h3,hcl,hix,hle,hrow]
   refine ⟨⟨Ab rfl ?_,Ab rfl ?_,Ab rfl ?_⟩,?_⟩
   ·simp [-getElem?_pos,An,Ai,Aa,AS,AT,List.take,List.take_succ_cons,List.take_zero,go_sem,AB,AG,hget,h0,h3,hcl,hix,hle,hrow,hne,hbn,BM,BR,List.getElem?_cons_zero,List.getElem?_cons_succ]
   ·simp [-getElem?_pos,An,Ai,Aa,AS,AT,List.take,List.take_succ_cons,List.take_zero,go_sem,AB,AG,hget,h0,h3,hcl,hix,hle,hrow,hne,hbn,BM,BR,List.getElem?_cons_zero,List.getElem?_cons_succ]
   ·simp [-getElem?_pos,An,Ai,Aa,AS,AT,List.take,List.take_succ_cons,List.take_zero,go_sem,AB,AG,hget,h0,h3,hcl,hix,hle,hrow,hne,hbn,BM,BR,List.getElem?_cons_zero,List.getElem?_cons_succ]
   simp [go_sem,AB,AG,hget,h0,h3,hcl,hix,hle,hrow,hbn,BM,BR,hq,hq6,hq7,hq8,e1,hget1,h31,hw,hle1,hsp1,hbid,hq2,hq3,hq4,hq5]
   simp [go_sem,AN,AM,AA,AE,AD,AC,AV.free.freeL,AV.free,AF,AH]
   exact ⟨_,_,⟨rfl,rfl⟩,hK _ _ ⟨rfl,rfl⟩⟩)
 exact ⟨_,own1,AQ Bz hcall,v2,x2,m2,(CK (k:=k)).trans Agr.ext (k1.trans a1 (k2.le fun k h=>OH h)),Agr.trans Agr.ext a1 (by rw [Gf];omega)⟩
theorem Vx {k:Tok} {x:Option (List Int × Row × Int)} (vx:XO g b own C tr val ids) (vf:FrO g b own t f id) (vr:RowO g b own C.R r) (hb:bar≤b) (hbg:b≤g.n) (hk:f.c.l[f.at']? = some k) (hs:HU k.sign=true) (hgo:Cs k.sign=false) (hme:Bb k.sign=false)
  (hM:∀ own0:Nat→Nat,XO (Db g k) b own0 C tr val ids→FrO (Db g k) b own0 t f id→RowO (Db g k) b own0 C.R r→b≤(Db g k).n→Gu bar b (Db g k) own0 C val ids t f id k x) :
  ∀ st r' tr',x=some (st,r',tr')→∃ g' own',call tb prim BD [.ptr C.X 0,.ptr id 0] bar g=some (.tup [],g')∧FrO g' b own' t { f with at':=f.at'+1,st:=st } id∧XO g' b own' C tr' val ids∧RowO g' b own' C.R r'∧Kp own (tP t) g g'∧Agr g.n own own':=by
 intro st r' tr' hxx
 obtain ⟨fc,n,cs,full,hget,h0,h3,hcl,hix,hle,hrow,hlt,ha6⟩:=vf.head hk
 have vz:=vf.mono (CK (k:=k) (S:=fun _=>False)) (Agr.ext (k:=0)) (by simp) (by simp)
 have hne:id≠g.n:=by omega
 have hbn:bar≤g.n:=by omega
 have hw:IntKind.i64.wrap ((f.at':Int)+1)=((f.at'+1:Nat):Int):=BF (by omega)
 have xz:=vx.mono (CK (k:=k) (S:=fun _=>False)) (Agr.ext (k:=0)) (by simp)
 have rz:=vr.mono (CK (k:=k) (S:=fun _=>False)) (Agr.ext (k:=0)) (by simp)
 obtain ⟨g1,own1,e1,v1,x1,r1,k1,a1⟩:=hM _ xz vz rz (by rw [Gf];omega) st r' tr' hxx
 obtain ⟨fd,fe,hget1,h31,hle1,hsp1,hbid,v2,k2⟩:=v1.next hb ha6
 simp only at h31 hsp1
 have x2:=x1.mono k2 Agr.refl (FR t)
 have r2:=r1.mono k2 Agr.refl (KS t)
 obtain ⟨hq,hs1,hs2,hq6⟩:=Tn hs
 have hq7:=fun g=>VJ (bar:=bar) (g:=g) hs
 rw [hgo] at hq7
 have hq8:=fun g=>Yr (bar:=bar) (g:=g) hs
 rw [hme] at hq8
 simp only [Db,BM,GD] at e1
 obtain ⟨y,g9,hcall,rfl,rfl⟩:=Aj (o:=call tb prim) (F:=f_engine_runner_step) (bar:=bar) (h:=g) (args:=[.ptr C.X 0,.ptr id 0]) (P:=fun y g9=>y=.tup []∧g9=g1.set id (.cells fe 0)) rfl rfl (fun K hK=>by
  rcases PT hs1 hs2 with ⟨hq2,hq3⟩ | ⟨hq2,hq3,hq4⟩ | ⟨hq2,hq3,hq4,hq5⟩
  ·simp [f_engine_runner_step,AO,go_sem,AB,AG,hget,h0,h3,hcl,hix,hle,hrow]
   refine ⟨⟨Ab rfl ?_,Ab rfl ?_,Ab rfl ?_⟩,?_⟩
   ·simp [-getElem?_pos,An,Ai,Aa,AS,AT,List.take,List.take_succ_cons,List.take_zero,go_sem,AB,AG,hget,h0,h3,hcl,hix,hle,hrow,hne,hbn,BM,BR,List.getElem?_cons_zero,List.getElem?_cons_succ]
   ·simp [-getElem?_pos,An,Ai,Aa,AS,AT,List.take,List.take_succ_cons,List.take_zero,go_sem,AB,AG,hget,h0,h3,hcl,hix,hle,hrow,hne,hbn,BM,BR,List.getElem?_cons_zero,List.getElem?_cons_succ]
   ·simp [-getElem?_pos,An,Ai,Aa,AS,AT,List.take,List.take_succ_cons,List.take_zero,go_sem,AB,AG,hget,h0,h3,hcl,hix,hle,hrow,hne,hbn,BM,BR,List.getElem?_cons_zero,List.getElem?_cons_succ]
   simp [go_sem,AB,AG,hget,h0,h3,hcl,hix,hle,hrow,hbn,BM,BR,hq,hq6,hq7,hq8,e1,hget1,h31,hw,hle1,hsp1,hbid,hq2,hq3]
   simp [go_sem,AN,AM,AA,AE,AD,AC,AV.free.freeL,AV.free,AF,AH]
   exact ⟨_,_,⟨rfl,rfl⟩,hK _ _ ⟨rfl,rfl⟩⟩
  ·simp [f_engine_runner_step,AO,go_sem,AB,AG,hget,h0,h3,hcl,hix,hle,hrow]
   refine ⟨⟨Ab rfl ?_,Ab rfl ?_,Ab rfl ?_⟩,?_⟩
   ·simp [-getElem?_pos,An,Ai,Aa,AS,AT,List.take,List.take_succ_cons,List.take_zero,go_sem,AB,AG,hget,h0,h3,hcl,hix,hle,hrow,hne,hbn,BM,BR,List.getElem?_cons_zero,List.getElem?_cons_succ]
   ·simp [-getElem?_pos,An,Ai,Aa,AS,AT,List.take,List.take_succ_cons,List.take_zero,go_sem,AB,AG,hget,h0,h3,hcl,hix,hle,hrow,hne,hbn,BM,BR,List.getElem?_cons_zero,List.getElem?_cons_succ]
   ·simp [-getElem?_pos,An,Ai,Aa,AS,AT,List.take,List.take_succ_cons,List.take_zero,go_sem,AB,AG,hget,h0,h3,hcl,hix,hle,hrow,hne,hbn,BM,BR,List.getElem?_cons_zero,List.getElem?_cons_succ]
   simp [go_sem,AB,AG,hget,h0,h3,hcl,hix,hle,hrow,hbn,BM,BR,hq,hq6,hq7,hq8,e1,hget1,h31,hw,hle1,hsp1,hbid,hq2,hq3,hq4]
   simp [go_sem,AN,AM,AA,AE,AD,AC,AV.free.freeL,AV.free,AF,AH]
   exact ⟨_,_,⟨rfl,rfl⟩,hK _ _ ⟨rfl,rfl⟩⟩
  ·simp [f_engine_runner_step,AO,go_sem,AB,AG,hget,h0,h3,hcl,hix,hle,hrow]
   refine ⟨⟨Ab rfl ?_,Ab rfl ?_,Ab rfl ?_⟩,?_⟩
   ·simp [-getElem?_pos,An,Ai,Aa,AS,AT,List.take,List.take_succ_cons,List.take_zero,go_sem,AB,AG,hget,h0,h3,hcl,hix,hle,hrow,hne,hbn,BM,BR,List.getElem?_cons_zero,List.getElem?_cons_succ]
   ·simp [-getElem?_pos,An,Ai,Aa,AS,AT,List.take,List.take_succ_cons,List.take_zero,go_sem,AB,AG,hget,h0,h3,hcl,hix,hle,hrow,hne,hbn,BM,BR,List.getElem?_cons_zero,List.getElem?_cons_succ]
   ·simp [-getElem?_pos,An,Ai,Aa,AS,AT,List.take,List.take_succ_cons,List.take_zero,go_sem,AB,AG,hget,h0,h3,hcl,hix,hle,hrow,hne,hbn,BM,BR,List.getElem?_cons_zero,List.getElem?_cons_succ]
   simp [go_sem,AB,AG,hget,h0,h3,hcl,hix,hle,hrow,hbn,BM,BR,hq,hq6,hq7,hq8,e1,hget1,h31,hw,hle1,hsp1,hbid,hq2,hq3,hq4,hq5]
   simp [go_sem,AN,AM,AA,AE,AD,AC,AV.free.freeL,AV.free,AF,AH]
   exact ⟨_,_,⟨rfl,rfl⟩,hK _ _ ⟨rfl,rfl⟩⟩)
 exact ⟨_,own1,AQ Bz hcall,v2,x2,r2,(CK (k:=k)).trans Agr.ext (k1.trans a1 (k2.le fun k h=>Kl h)),Agr.trans Agr.ext a1 (by rw [Gf];omega)⟩
end
end Go.Ev
set_option linter.unusedSectionVars false
namespace Go.Ev
open Go
def Ht (m:Mem):Mem:=⟨m.b++List.replicate 64 0,m.most,m.dirty++[true]⟩
def Lx:Nat→Mem→Mem
 | 0,m=>m
 | k+1,m=>Lx k (Ht m)
theorem TA:∀ (k:Nat) (m:Mem),Lx k m=⟨m.b++List.replicate (k*64) 0,m.most,m.dirty++List.replicate k true⟩
 | 0,m=>by simp [Lx]
 | k+1,m=>by
  rw [Lx,TA k]
  simp only [Ht,List.append_assoc]
  rw [List.replicate_append_replicate,List.replicate_succ,show 64+k*64=(k+1)*64 by omega]
  rfl
def OG:Nat→Prop:=fun k=>k=3∨k=4∨k=5
theorem cS (a b c v:AV):AL [a,b,c] 0 [v]=[v,b,c]:=Eq.trans rfl rfl
theorem cT (a b c v:AV):AL [a,b,c] 2 [v]=[a,b,v]:=Eq.trans rfl rfl
section
variable {bar b:Nat} {g:H} {own:Nat→Nat} {C:Cx} {tr val:Int} {ids:List Nat} {t:Nat} {f:Fm} {id i M:Nat} {m:Mem}
theorem RZ (was n:Int) (hn64:n≤64) (hb:bar≤b) (Q:Ex→Env→H→Prop):∀ (k i:Nat) (g:H) (own:Nat→Nat) (m:Mem),n=(i:Int)+k→b≤g.n→MemO g b own M m→(m.dirty.length:Int)+k≤m.most →
  (∀ e g' own',MemO g' b own' M (Lx k m)→Kp own OG g g'→Agr g.n own own'→e.get 5=some (.int .i64 was)→Q (.exit 0) e g') →
  CW (call tb prim) bar [0,5,20,21] ES [(0,.ptr M 0),(5,.int .i64 was),(20,.int .i64 n),(21,.int .i64 i)] g Q
 | 0,i,g,own,m,hk,hbg,vm,hmo,hq=>by
  refine Ad ES.eq_1 ?_
  have hlt:¬ (i:Int)<n:=by omega
  simp [go_sem,hlt]
  exact hq _ _ own vm Kp.refl Agr.refl rfl
 | k+1,i,g,own,m,hk,hbg,vm,hmo,hq=>by
  have vm':=vm
  obtain ⟨⟨ba,da,hv,hba,hda⟩,hoM⟩:=vm'
  have hlt:(i:Int)<n:=by omega
  have hw:=BF (n:=i) (by omega)
  have hg:=hv.get
  have hlen:m.b.length≤4096:=by have:=hv.sz;have:=hv.m0;have:=hv.m1;omega
  have hd64:m.dirty.length<64:=by have:=hv.m0;omega
  obtain ⟨g1,e1,o1,n1,f1⟩:=(hv.ob.bar_le hb).appA (bar:=bar) (by omega) 1 64 (Df (List.replicate 64 0)) (by omega) (by simp [Df]) (by rw [← MT];exact Oe rfl 64) (by omega) (by omega)
  have hMlt:=hv.lt
  have gM1:g1.get M=some (.cells [ba,.int .i64 m.most,da] 0):=by rw [f1 M hMlt hv.nb];exact hg
  obtain ⟨g2,hg2⟩:∃ g2,g2=g1.set M (.cells [.sl g.n 0 1 (m.b.length+64) false,.int .i64 m.most,da] 0):=⟨_,rfl⟩
  have n2:g2.n=g.n+1:=by rw [hg2,AW];exact n1
  have e12:g1.n=g2.n:=by omega
  have gM2:g2.get M=some (.cells [.sl g.n 0 1 (m.b.length+64) false,.int .i64 m.most,da] 0):=by rw [hg2,AU,if_pos rfl]
  have od2:OW 1 g2 bar da m.dirty.length (Kr m.dirty):=(hv.od.bar_le hb).mono (by omega) (fun j hj=>by
   rw [hg2,AI (fun q:j=M=>hv.nd (by rw [← q];exact hj)),f1 j (hv.od.at_lt hj).2 (fun q=>hv.ap j q hj)])
  obtain ⟨g3,e3,o3,n3,f3⟩:=od2.app (by omega) 1 [.bool true] rfl rfl (by omega) (by omega) (by omega)
  have gM3:g3.get M=some (.cells [.sl g.n 0 1 (m.b.length+64) false,.int .i64 m.most,da] 0):=by rw [f3 M (by omega) hv.nd];exact gM2
  obtain ⟨g4,hg4⟩:∃ g4,g4=g3.set M (.cells [.sl g.n 0 1 (m.b.length+64) false,.int .i64 m.most,.sl (g2.n+1) 0 1 (m.dirty.length+1) false] 0):=⟨_,rfl⟩
  have n4:g4.n=g.n+3:=by rw [hg4,AW];omega
  have hbM:bar≤M:=Nat.le_trans hb hv.bM
  have hgn:¬ da.isAt g.n:=fun q=>by have:=(hv.od.at_lt q).2;omega
  have hV:MemV g4 b M (Ht m) (.sl g.n 0 1 (m.b.length+64) false) (.sl (g2.n+1) 0 1 (m.dirty.length+1) false):=by
   refine ⟨by rw [hg4,AU,if_pos rfl];rfl,hv.bM,by omega,?_,?_,fun q=>by cases q;omega,fun q=>by cases q;omega,fun j h1 h2=>by have h1':g.n=j:=h1;have h2':g2.n+1=j:=h2;omega,?_,hv.m0,?_,?_⟩
   ·have:=(o1.up (b:=b) (fun j hj=>by cases hj;omega)).mono (h':=g4) (by omega) (fun j hj=>by cases hj;rw [hg4,AI (by omega),f3 _ (by omega) hgn,hg2,AI (by omega)])
    simpa [Ht,Df] using this
   ·have:=(o3.up (b:=b) (fun j hj=>by cases hj;omega)).mono (h':=g4) (by omega) (fun j hj=>by cases hj;rw [hg4,AI (by omega)])
    simpa [Ht,Kr] using this
   ·have:=hv.sz;simp [Ht];omega
   ·simp [Ht];omega
   ·intro x hx
    simp only [Ht,List.mem_append] at hx
    rcases hx with hx | hx
    ·exact hv.rng x hx
    ·rw [List.eq_of_mem_replicate hx];omega
  have hag:Agr g.n own (ext (ext own g.n 4) (g.n+1) 5):=Agr.trans Agr.ext Agr.ext (by omega)
  have hO:MemO g4 b (ext (ext own g.n 4) (g.n+1) 5) M (Ht m) :=
   ⟨⟨_,_,hV,fun j hj=>by cases hj;simp [ext],fun j hj=>by cases hj;simp only [ext];rw [if_neg (by omega)]⟩,by rw [hag M hMlt];exact hoM⟩
  have hkp:Kp own OG g g4:=⟨by omega,fun j hj hs=>by
   rw [hg4,AI (fun q=>hs (.inl (by rw [q];exact hoM))),f3 j (by omega) (fun q=>hs (.inr (.inr (hda j q)))),hg2,AI (fun q=>hs (.inl (by rw [q];exact hoM))),f1 j hj (fun q=>hs (.inr (.inl (hba j q))))]⟩
  refine Ad ES.eq_1 ?_
  simp [go_sem,AB,AG,hlt,hg,cS,cT,hbM]
  rw [MT,e1]
  simp [go_sem,AB,AG,gM1,cS,hbM]
  rw [← hg2]
  simp [go_sem,AB,AG,gM2,AX,Af,ID]
  rw [e12,e3]
  simp [go_sem,AB,AG,cT,hbM,gM3]
  rw [← hg4,hw]
  refine RZ was n hn64 hb Q k (i+1) g4 _ (Ht m) (by omega) (by omega) hO (by simp [Ht];omega) (fun e g' own' h1 h2 h3 h4=>?_)
  exact hq e g' own' h1 (hkp.trans hag h2) (Agr.trans hag h3 (by omega)) h4
end
end Go.Ev
set_option linter.unusedSectionVars false
namespace Go.Ev
open Go
section
variable {bar b:Nat} {g:H} {own:Nat→Nat} {C:Cx} {tr val:Int} {ids:List Nat} {t:Nat} {f:Fm} {id i M:Nat} {m:Mem} {r:Row}
theorem ZS (vm:MemO g b own M m) (hb:bar≤b) (hbg:b≤g.n) (n:Int) :
  ∃ g' own',call tb prim Dg [.ptr M 0,.int .i64 n] bar g=some (.int .i64 (Gi m n).2,g')∧MemO g' b own' M (Gi m n).1∧Kp own OG g g'∧Agr g.n own own':=by
 have vm':=vm
 obtain ⟨⟨ba,da,hv,hba,hda⟩,hoM⟩:=vm'
 have hg:=hv.get
 have e0:=TZ (bar:=bar) hv
 have hm0:=hv.m0
 have hm1:=hv.m1
 have hw:IntKind.i64.wrap (m.most - (m.dirty.length:Int))=m.most - m.dirty.length:=BN (by omega) (by omega)
 by_cases h0:n<0
 ·obtain ⟨y,g9,hcall,rfl,rfl⟩:=Aj (o:=call tb prim) (F:=f_cells_Memory_Grow) (bar:=bar) (h:=g) (args:=[.ptr M 0,.int .i64 n]) (P:=fun y g9=>y=.int .i64 (-1)∧g9=g) rfl rfl (fun K hK=>by
   have d0:decide (n<0)=true:=by simpa using h0
   simp [f_cells_Memory_Grow,AO,go_sem,AB,AG,e0,d0]
   simp [go_sem,AN,AM,AA,AE,AD,AC,AV.free.freeL,AV.free,AF,AH]
   exact ⟨_,_,⟨rfl,rfl⟩,hK _ _ ⟨rfl,rfl⟩⟩)
  have e:Gi m n=(m,-1):=by unfold Gi;rw [if_pos (.inl h0)]
  rw [e]
  exact ⟨_,own,AQ Fs hcall,vm,Kp.refl,Agr.refl⟩
 ·have d0:decide (n<0)=false:=by simpa using h0
  by_cases h1:n > m.most - m.dirty.length
  ·obtain ⟨y,g9,hcall,rfl,rfl⟩:=Aj (o:=call tb prim) (F:=f_cells_Memory_Grow) (bar:=bar) (h:=g) (args:=[.ptr M 0,.int .i64 n]) (P:=fun y g9=>y=.int .i64 (-1)∧g9=g) rfl rfl (fun K hK=>by
    have d1:decide (m.most - (m.dirty.length:Int)<n)=true:=by simpa using h1
    simp [f_cells_Memory_Grow,AO,go_sem,AB,AG,e0,d0,hg,hw,d1]
    simp [go_sem,AN,AM,AA,AE,AD,AC,AV.free.freeL,AV.free,AF,AH]
    exact ⟨_,_,⟨rfl,rfl⟩,hK _ _ ⟨rfl,rfl⟩⟩)
   have e:Gi m n=(m,-1):=by unfold Gi;rw [if_pos (.inr h1)]
   rw [e]
   exact ⟨_,own,AQ Fs hcall,vm,Kp.refl,Agr.refl⟩
  ·have e:Gi m n=(Lx n.toNat m,(m.dirty.length:Int)):=by
    unfold Gi;rw [if_neg (by omega),TA]
   rw [e]
   obtain ⟨y,g9,hcall,rfl,own',h2,h3,h4⟩:=Aj (o:=call tb prim) (F:=f_cells_Memory_Grow) (bar:=bar) (h:=g) (args:=[.ptr M 0,.int .i64 n]) (P:=fun y g9=>y=.int .i64 m.dirty.length∧∃ own',MemO g9 b own' M (Lx n.toNat m)∧Kp own OG g g9∧Agr g.n own own') rfl rfl (fun K hK=>by
    have d1:decide (m.most - (m.dirty.length:Int)<n)=false:=by simpa using h1
    simp [f_cells_Memory_Grow,AO,go_sem,AB,AG,e0,d0,hg,hw,d1]
    refine RZ m.dirty.length n (by omega) hb _ n.toNat 0 g own m (by omega) hbg vm (by omega) (fun e g' own' h1 h2 h3 h4=>?_)
    simp [go_sem,AN,AM,AA,AE,AD,AC,AV.free.freeL,AV.free,AF,AH,h4]
    exact ⟨_,_,⟨rfl,rfl⟩,hK _ _ ⟨rfl,own',h1,h2,h3⟩⟩)
   exact ⟨_,own',AQ Fs hcall,h2,h3,h4⟩
theorem YF {a:Int} {st:List Int} (vx:XO g b own C tr val ids) (vf:FrO g b own t f id) (vm:MemO g b own C.M m) (hb:bar≤b) (hbg:b≤g.n) (hst:f.st=a::st) :
  Qc bar b g own C val ids t f id 164 (some ((Gi m a).2::st,(Gi m a).1,tr)):=by
 rintro st0 m0 tr0 h
 cases h
 have hsm:=vf.sm
 rw [hst] at hsm
 obtain ⟨g1,e1,v1,k1⟩:=Gm vf hst hb
 have x1:=vx.mono k1 Agr.refl (FR t)
 have m1:=vm.mono k1 Agr.refl (Mm t)
 have hbg1:b≤g1.n:=Nat.le_trans hbg k1.1
 obtain ⟨g2,own2,e2,m2,k2,a2⟩:=ZS m1 hb hbg1 a
 have x2:=x1.mono k2 a2 (by unfold OG;omega)
 have v2:=v1.mono k2 a2 (by unfold OG;omega) (by unfold OG;omega)
 obtain ⟨g3,own3,e4,v3,k3,a3⟩:=Gy v2 hb (by have:=k2.1;omega) (by simp at hsm ⊢;omega) (Gi m a).2
 have x3:=x2.mono k3 a3 (FR t)
 have m3:=m2.mono k3 a3 (Mm t)
 have hk:Kp own (tM t) g g3:=(k1.le fun k h=>OH h).trans Agr.refl ((k2.le fun k h=>by unfold OG at h;unfold tM;omega).trans a2 (k3.le fun k h=>OH h))
 obtain ⟨cs,c1,c2,_⟩:=vx.cell4
 obtain ⟨cs',c1',c2',_⟩:=x1.cell4
 obtain ⟨cs'',c1'',c2'',_⟩:=x2.cell4
 obtain ⟨x,g4,hcall,rfl,rfl⟩:=Aj (o:=call tb prim) (F:=f_engine_runner_memory) (bar:=bar) (h:=g) (args:=[.ptr C.X 0,.ptr id 0,.int .i32 164]) (P:=fun x g4=>x=.tup []∧g4=g3) rfl rfl (fun K hK=>by
  simp [f_engine_runner_memory,AO,go_sem,AB,AG,c1,c2,e1,e2,e4]
  refine ⟨Ab rfl ?_,?_⟩
  ·simp [-getElem?_pos,An,Ai,Aa,AS,AT,List.take,List.take_succ_cons,List.take_zero,go_sem,AB,AG,c1,c2,c1',c2',c1'',c2'',e1,e2,List.getElem?_cons_zero,List.getElem?_cons_succ]
  simp [go_sem,AN,AM,AA,AE,AD,AC,AV.free.freeL,AV.free,AF,AH]
  exact ⟨_,_,⟨rfl,rfl⟩,hK _ _ ⟨rfl,rfl⟩⟩)
 exact ⟨_,own3,AQ Dd hcall,v3,x3,m3,hk,Agr.trans (Agr.trans Agr.refl a2 k1.1) a3 (by have:=k1.1;have:=k2.1;omega)⟩
theorem Zp (vx:XO g b own C tr val ids) (vf:FrO g b own t f id) (vm:MemO g b own C.M m) (hb:bar≤b) (hbg:b≤g.n) (hsm:f.st.length<3000000) {sg:Int} (hsg:Bb sg=true) :
  Qc bar b g own C val ids t f id sg (Qt sg f.st m tr):=by
 have hsg':sg=64∨sg=169∨sg=36∨sg=174∨sg=35∨sg=164:=by simpa [Bb] using hsg
 intro st m' tr' h
 unfold Qt at h
 split at h
 ·rename_i hc
  split at h
  ·cases h
  ·rename_i a st0 hst
   exact YG vx vf vm hb hbg hst hc _ _ _ h
 ·split at h
  ·rename_i hc
   split at h
   ·rename_i n a st0 hst
    exact Ws vx vf vm hb hbg hst hc _ _ _ h
   ·cases h
  ·split at h
   ·rename_i hc
    subst hc
    exact Wr vx vf vm hb hbg hsm _ _ _ h
   ·split at h
    ·cases h
    ·rename_i a st0 hst
     have hz:sg=164:=by omega
     subst hz
     exact YF vx vf vm hb hbg hst _ _ _ h
theorem XD {k:Tok} (vx:XO g b own C tr val ids) (vf:FrO g b own t f id) (vr:RowO g b own C.R r) (hb:bar≤b) (hbg:b≤g.n) (hsm:f.st.length<3000000) (hsr:r.asks.length<2000000) :
  Gu bar b g own C val ids t f id k (Ig k f.st r tr):=by
 intro st r' tr' h
 unfold Ig at h
 split at h
 ·rename_i hc
  split at h
  ·cases h
  ·rename_i a st0 hst
   exact XF vx vf vr hb hbg hst hsm hc _ _ _ h
 ·rename_i q1
  split at h
  ·rename_i hc
   split at h
   ·cases h
   ·rename_i a st0 hst
    exact Vb vx vf vr hb hbg hst hc _ _ _ h
  ·rename_i q2
   split at h
   ·rename_i hc
    exact Vd vx vf vr hc _ _ _ h
   ·rename_i q3
    split at h
    ·rename_i hc
     exact Vc vx vf vr hb hc _ _ _ h
    ·rename_i q4
     split at h
     ·rename_i hc
      split at h
      ·cases h
      ·rename_i a st0 hst
       exact XE vx vf vr hb hbg hst hsr hc _ _ _ h
     ·rename_i q5
      split at h
      ·rename_i hc
       split at h
       ·cases h
       ·rename_i a st0 hst
        exact XG vx vf vr hb hbg hst hc _ _ _ h
      ·rename_i q6
       split at h
       ·rename_i c a st0 hst
        exact XH vx vf vr hb hbg hst ⟨q1,q2,fun q=>q3 (.inl q),fun q=>q3 (.inr q),q4,q5,q6⟩ _ _ _ h
       ·cases h
end
end Go.Ev
set_option linter.unusedSectionVars false
namespace Go.Ev
open Go
def EY (s:Int):Bool:=decide (s=48∨(97≤s∧s≤122)∨(65≤s∧s≤90)∨s=955)||HU s
def NT (fr:List Fm):Prop:=∀ f ∈ fr,∀ k ∈ f.c.l,EY k.sign=true
section
variable {bar b:Nat} {g:H} {own:Nat→Nat} {C:Cx} {val:Int} {ids:List Nat} {f:Fm} {i:Nat}
theorem XV.put {g':H} {own':Nat→Nat} {S:Nat→Prop} {s:Mc} {r:List Fm} {f':Fm} (v:XV g b own C s val (i::ids)) (hfr:s.fr=f::r) (k:Kp own S g g') (a:Agr g.n own own') (x:XO g' b own' C s.trap val (i::ids)) (fo:FrO g' b own' r.length f' i) (h0:¬ S 0) (hs:∀ t,t<r.length→¬ S (2*t+10)∧¬ S (2*t+11)) (hm:¬ S 3∧¬ S 4∧¬ S 5) (hr:¬ S 6∧¬ S 7∧¬ S 8):XV g' b own' C { s with fr:=f'::r } val (i::ids) :=
 have hv:=v.fr
 have hv2:FrsV g b own (f::r) (i::ids):=hfr ▸ hv
 ⟨x,v.cx.mono k a h0,⟨fo,FrsV.mono k a hv2.2 hs⟩,v.m.mono k a hm,v.r.mono k a hr,by have:=k.1;have:=v.bn;omega⟩
theorem SY {t u:Nat} (h:u<t):¬ tS t (2*u+10)∧¬ tS t (2*u+11):=by unfold tS;omega
theorem aO {s s':Mc} {r:List Fm} (v:XV g b own C s val (i::ids)) (hfr:s.fr=f::r) (hb:bar≤b) (hst:IZ C.fs (C.rows.map (·.2.2)) s=some s') (hg:NT s.fr) (hT:Ea s.fr<3000000) (hsr:s.r.asks.length<2000000) (hids:ids.length<999) :
  ∃ g' own' ids',call tb prim BD [.ptr C.X 0,.ptr i 0] bar g=some (.tup [],g')∧XV g' b own' C s' val ids'∧Kp own tA g g'∧Agr g.n own own':=by
 have hv:FrsV g b own (f::r) (i::ids):=hfr ▸ v.fr
 have vf:=hv.1
 have hln:ids.length=r.length:=hv.2.len
 have hbg:=v.bn
 have hsm:f.st.length<3000000:=by rw [hfr] at hT;simp only [Ea] at hT;omega
 unfold IZ at hst
 rw [hfr] at hst
 simp only at hst
 split at hst
 ·cases hst
 ·rename_i k hk
  have hkg:EY k.sign=true:=hg f (by rw [hfr];exact List.mem_cons_self ..) k (List.mem_of_getElem? hk)
  split at hst
  ·rename_i q
   cases hst
   obtain ⟨g',own',e,fo,kp,ag⟩:=Yh (bar:=bar) vf hb hbg hk q hsm (.ptr C.X 0)
   exact ⟨g',own',_,e,v.put hfr kp ag (v.x.mono kp ag (FR _)) fo (PB _) (fun t ht=>SY ht) (Mm _) (KS _),kp.le fun k h=>WA h,ag⟩
  ·rename_i q1
   split at hst
   ·rename_i q
    split at hst
    ·cases hst
    ·rename_i x hx
     cases hst
     obtain ⟨g',own',e,fo,kp,ag⟩:=Yf (bar:=bar) vf hb hbg hk q hx hsm (.ptr C.X 0)
     exact ⟨g',own',_,e,v.put hfr kp ag (v.x.mono kp ag (FR _)) fo (PB _) (fun t ht=>SY ht) (Mm _) (KS _),kp.le fun k h=>WA h,ag⟩
   ·rename_i q2
    split at hst
    ·rename_i q
     split at hst
     ·cases hst
     ·rename_i x st hx
      cases hst
      obtain ⟨g',own',e,fo,kp,ag⟩:=Yi (bar:=bar) vf hb hbg hk q hx (.ptr C.X 0)
      exact ⟨g',own',_,e,v.put hfr kp ag (v.x.mono kp ag (FR _)) fo (PB _) (fun t ht=>SY ht) (Mm _) (KS _),kp.le fun k h=>WA h,ag⟩
    ·rename_i q3
     split at hst
     ·rename_i q
      split at hst
      ·cases hst
      ·rename_i c hc
       split at hst
       ·cases hst
       ·rename_i q5
        rw [List.getElem?_map] at hc
        cases hx:C.rows[(Ay k.name C.fs 0).toNat]? with
        | none=>rw [hx] at hc;cases hc
        | some x =>
         rw [hx] at hc
         simp only [Option.map_some,Option.some.injEq] at hc
         obtain ⟨g',own',e,fo,kp,ag,hh⟩:=XP (bar:=bar) (a:=c.args.toNat) v.x v.cx vf hb hbg hk q (kk:=(Ay k.name C.fs 0).toNat) (by omega) hx (by rw [hc];omega) (by omega) (by simp;omega)
         have hlt:∀ t,t<r.length→¬ tC r.length (2*t+10)∧¬ tC r.length (2*t+11):=fun t ht=>by unfold tC tS;omega
         have h0:¬ tC r.length 0:=by unfold tC tS;omega
         have h3:¬ tC r.length 3∧¬ tC r.length 4∧¬ tC r.length 5:=by unfold tC tS;omega
         have h6:¬ tC r.length 6∧¬ tC r.length 7∧¬ tC r.length 8:=by unfold tC tS;omega
         split at hst
         ·rename_i hd
          cases hst
          rcases hh with ⟨_,hx6⟩ | ⟨hn,_⟩
          ·exact ⟨g',own',_,e,⟨hx6,v.cx.mono kp ag h0,⟨fo,FrsV.mono kp ag hv.2 hlt⟩,v.m.mono kp ag h3,v.r.mono kp ag h6,by have:=kp.1;omega⟩,kp.le fun k h=>cV h,ag⟩
          ·exfalso;simp at hn hd;omega
         ·rename_i hd
          cases hst
          rcases hh with ⟨hn,_⟩ | ⟨_,j,hxj,hfj⟩
          ·exfalso;simp at hn hd;omega
          ·refine ⟨g',own',j::i::ids,e,⟨hxj,v.cx.mono kp ag h0,⟨?_,fo,FrsV.mono kp ag hv.2 hlt⟩,v.m.mono kp ag h3,v.r.mono kp ag h6,by have:=kp.1;omega⟩,kp.le fun k h=>cV h,ag⟩
           rw [hc] at hfj
           have:(i::ids).length=({ f with at':=f.at'+1,st:=f.st.drop c.args.toNat }::r).length:=by simp [hln]
           rw [← this]
           exact hfj
     ·rename_i q4
      have hsg:HU k.sign=true:=by
       have:=hkg
       unfold EY at this
       simp only [Bool.or_eq_true,decide_eq_true_eq] at this
       rcases this with h | h
       ·omega
       ·exact h
      split at hst
      ·rename_i hgo
       have hX:=fun (g1:H) (f':Fm) (fo:FrO g1 b (ext own g.n 0) r.length f' i) (hk1:Kp (ext own g.n 0) (tS r.length) (Db g k) g1)=>True
       have vz:=vf.mono (CK (k:=k) (S:=fun _=>False)) (Agr.ext (k:=0)) (by simp) (by simp)
       have hgz:b≤(Db g k).n:=by rw [Gf];omega
       have fin:∀ f':Fm,(∃ g1,call tb prim BZ [.ptr C.X 0,.ptr i 0,.int .i32 k.sign] bar (Db g k)=some (.tup [],g1)∧FrO g1 b (ext own g.n 0) r.length f' i∧Kp (ext own g.n 0) (tS r.length) (Db g k) g1) →
         ∃ g' own' ids',call tb prim BD [.ptr C.X 0,.ptr i 0] bar g=some (.tup [],g')∧XV g' b own' C { s with fr:=f'::r } val ids'∧Kp own tA g g'∧Agr g.n own own':=fun f' hG=>by
        obtain ⟨g',own',e,fo,kp,ag⟩:=XQ (bar:=bar) vf hb hk hsg hgo (.ptr C.X 0) hG hbg
        exact ⟨g',own',_,e,v.put hfr kp ag (v.x.mono kp ag (FR _)) fo (PB _) (fun t ht=>SY ht) (Mm _) (KS _),kp.le fun k h=>WA h,ag⟩
       split at hst
       ·rename_i q63
        split at hst
        ·cases hst
        ·rename_i vv st hfs
         split at hst
         ·rename_i hne
          cases hst
          refine fin _ ?_
          rw [q63]
          exact bH vz hfs hne hb (List.getElem?_eq_some_iff.mp hk).1 (.ptr C.X 0)
         ·rename_i hz
          have hz':vv=0:=by simpa using hz
          split at hst
          ·cases hst
          ·rename_i j hj
           split at hst
           ·cases hst
           ·cases hst
            refine fin _ ?_
            rw [q63]
            obtain ⟨j',rfl⟩:=Int.eq_ofNat_of_zero_le (show 0≤j by omega)
            exact bG vz (by rw [hfs,hz']) hb hj (.ptr C.X 0)
       ·rename_i q63
        split at hst
        ·cases hst
        ·rename_i j hj
         split at hst
         ·cases hst
         ·cases hst
          refine fin _ ?_
          obtain ⟨j',rfl⟩:=Int.eq_ofNat_of_zero_le (show 0≤j by omega)
          exact ZR vz hb hj (.ptr C.X 0) q63
      ·rename_i hgo
       have hgo':Cs k.sign=false:=by simpa using hgo
       split at hst
       ·rename_i hme
        split at hst
        ·cases hst
        ·rename_i st m' tr' hm
         cases hst
         obtain ⟨g',own',e,fo,xo,mo,kp,ag⟩:=Yg (bar:=bar) v.x vf v.m hb hbg hk hsg hgo' hme (fun own0 vx vf vm hbz=>Zp vx vf vm hb hbz hsm hme) st m' tr' hm
         refine ⟨g',own',_,e,⟨xo,v.cx.mono kp ag (by unfold tM tS;omega),⟨fo,FrsV.mono kp ag hv.2 fun t ht=>by unfold tM tS;omega⟩,mo,v.r.mono kp ag (by unfold tM tS;omega),by have:=kp.1;omega⟩,kp.le fun k h=>eq h,ag⟩
       ·rename_i hme
        have hme':Bb k.sign=false:=by simpa using hme
        split at hst
        ·cases hst
        ·rename_i st ro tr' hm
         cases hst
         obtain ⟨g',own',e,fo,xo,mo,kp,ag⟩:=Vx (bar:=bar) v.x vf v.r hb hbg hk hsg hgo' hme' (fun own0 vx vf vm hbz=>XD vx vf vm hb hbz hsm hsr) st ro tr' hm
         refine ⟨g',own',_,e,⟨xo,v.cx.mono kp ag (by unfold tP tS;omega),⟨fo,FrsV.mono kp ag hv.2 fun t ht=>by unfold tP tS;omega⟩,v.m.mono kp ag (by unfold tP tS;omega),mo,by have:=kp.1;omega⟩,kp.le fun k h=>et h,ag⟩
end
end Go.Ev
set_option linter.unusedSectionVars false
namespace Go.Ev
open Go
def En (fs:List Fn) (f:Fn) (i:Nat):Bool:=FL f.name&&(Ay f.name fs 0 == i)&&decide (0≤f.args)&&decide (f.args≤4)
def FM (fs:List Fn):Nat→Nat→Bool
 | 0,_=>true
 | k+1,i=>match fs[i]? with
  | none=>true
  | some f=>if En fs f i then FM fs k (i+1) else false
def Nd (fs:List Fn) (i:Nat):Int:=(Cl (fun l=>(BW l).isSome) fs i).2
def GE (fs:List Fn):Nat→Nat→Int
 | 0,_=>0
 | k+1,i=>if Nd fs i≠0 then Nd fs i else GE fs k (i+1)
def Co (p m:Int) (fs:List Fn):Int :=
 if p<0∨m<p∨64<m then 25 else
 if 32<fs.length then 3 else
 if FM fs fs.length 0 then GE fs fs.length 0 else 12
section
variable {o:Oracle} {bar:Nat} {g:H}
theorem WK {fa:AV} {fs:List Fn} (hv:FV g fa fs) {i:Nat} (hi:i<fs.length) {c d:Nat} {r:List IOper} {ks:List Fr} {e:Env} {Q:Ex→Env→H→Prop}
  (hw:∀ u,HC o bar r ks ((d,.agg fs[i].cells)::(c,u)::e) g Q):Lh o bar (Hu 3 (some fa) (some (.int .i64 (i:Int))) g) (some c) (⟨some d,.ld true 3 (.t c),none⟩::r) ks e Q:=by
 have hix:AJ (.int .i64 (i:Int)) fs.length=some i:=by simp only [AJ];rw [if_pos (by omega),Int.toNat_natCast]
 rcases hv.cases with ⟨_,rfl⟩ | ⟨full,cs,rfl,hl,_,hy⟩ | ⟨id,off,full,all,p,rfl,hlt,hg,_,hy⟩
 ·cases hi
 ·obtain ⟨h1,h2⟩:=hy i hi
  simp [go_sem,hix,hl,h1,h2]
  exact hw _
 ·obtain ⟨h1,h2⟩:=hy i hi
  simp [go_sem,hix,hg,h1,h2]
  exact hw _
theorem cu {fa:AV} {fs:List Fn} (hv:FV g fa fs) {i:Nat} (hi:i<fs.length) {c c' d:Nat} {r:List IOper} {ks:List Fr} {e:Env} {Q:Ex→Env→H→Prop}
  (hw:∀ u v,HC o bar r ks ((d,.int .i64 fs[i].args)::(c',v)::(c,u)::e) g Q):Lh o bar (Hu 3 (some fa) (some (.int .i64 (i:Int))) g) (some c) (⟨some c',.fadr 1 (.t c),none⟩::⟨some d,.ld false 1 (.t c'),none⟩::r) ks e Q:=by
 have hix:AJ (.int .i64 (i:Int)) fs.length=some i:=by simp only [AJ];rw [if_pos (by omega),Int.toNat_natCast]
 rcases hv.cases with ⟨_,rfl⟩ | ⟨full,cs,rfl,hl,hx,_⟩ | ⟨id,off,full,all,p,rfl,hlt,hg,hx,_⟩
 ·cases hi
 ·obtain ⟨_,h2,_⟩:=hx i hi
  simp [go_sem,hix,hl,h2]
  exact hw _ _
 ·obtain ⟨_,h2,_⟩:=hx i hi
  simp [go_sem,hix,hg,h2]
  exact hw _ _
end
section
variable {bar b:Nat} {g:H} {fa:AV} {fs:List Fn} {p m:Int}
theorem eP (a b c u v w:AV):AL [a,b,c] 0 [u,v,w]=[u,v,w]:=Eq.trans rfl rfl
theorem Px (hb:bar≤b) (Q:Ex→Env→H→Prop) (bx:Nat) (hbx:bx<b):∀ (k i:Nat) (g:H),fs.length=i+k→b≤g.n→FV g fa fs→g.get bx=some (.cells [.int .i64 p,.int .i64 m,fa] 0) →
  (FM fs k i=true→∀ e g',Q (.exit 0) e g')→(FM fs k i=false→∀ e g',e.get 2=some (.bool false)→Q .ret e g') →
  CW (call tb prim) bar [1,6,7,8] HI [(1,.ptr bx 0),(6,fa),(7,As fs.length),(8,As i)] g Q
 | 0,i,g,hk,hbg,hv,hgx,h1,h2=>by
  refine Ad HI.eq_1 ?_
  have hlt:¬ (i:Int)<(fs.length:Int):=by omega
  simp [go_sem,As,hlt]
  exact h1 rfl _ _
 | k+1,i,g,hk,hbg,hv,hgx,h1,h2=>by
  refine Ad HI.eq_1 ?_
  have hi:i<fs.length:=by omega
  have hlt:(i:Int)<(fs.length:Int):=by omega
  have hw:=BF (n:=i) (by have:=hv.2.1;omega)
  have hN:FM fs (k+1) i=if En fs fs[i] i then FM fs k (i+1) else false:=by
   rw [FM,List.getElem?_eq_getElem hi]
  obtain ⟨f,hf⟩:∃ f,f=fs[i]:=⟨_,rfl⟩
  rw [← hf] at hN
  obtain ⟨g1,hg1⟩:∃ g1,g1=(g.alloc (.cells [.int .i32 0,.int .i64 0,.str ⟨#[]⟩] 0)).set g.n (.cells [.int .i32 f.name,.int .i64 f.args,.str f.code] 0):=⟨_,rfl⟩
  have n1:g1.n=g.n+1:=by rw [hg1];rfl
  have k1:∀ j,j<g.n→g1.get j=g.get j:=fun j hj=>by rw [hg1,AI (by omega),AK,if_neg (by omega)]
  have hv1:FV g1 fa fs:=hv.keep (by omega) (fun j hj=>k1 j (hv.at_lt' hj))
  have gx1:g1.get bx=some (.cells [.int .i64 p,.int .i64 m,fa] 0):=by rw [k1 bx (by omega)];exact hgx
  have gF:g1.get g.n=some (.cells [.int .i32 f.name,.int .i64 f.args,.str f.code] 0):=by rw [hg1,AU,if_pos rfl]
  have eN:=Im (pr:=prim) (bar:=bar) (h:=g1) f.name
  have eF:=HD (pr:=prim) (bar:=bar) (h:=g1) fs fa f.name p m hv1
  have hbn:bar≤g.n:=by omega
  simp [go_sem,As,hlt]
  refine WK hv hi fun u=>?_
  rw [← hf]
  simp [go_sem,AB,AG,Fn.cells,eP,hbn]
  rw [← hg1]
  by_cases c1:FL f.name=true
  ·by_cases c2:Ay f.name fs 0=(i:Int)
   ·by_cases c3:0≤f.args
    ·by_cases c4:f.args≤4
     ·have hG:En fs f i=true:=by simp [En,c1,c2,c3,c4]
      rw [hG,if_pos rfl] at hN
      rw [c1] at eN
      rw [c2] at eF
      have d3:decide (f.args<0)=false:=by simpa using c3
      have d4:decide (4<f.args)=false:=by simpa using c4
      simp [go_sem,AB,AG,gF,eN,gx1,eF,d3,d4,hw]
      exact Px hb Q bx hbx k (i+1) g1 (by omega) (by omega) hv1 gx1 (fun h=>h1 (by rw [hN];exact h)) (fun h=>h2 (by rw [hN];exact h))
     ·have hG:En fs f i=false:=by simp [En,c4]
      rw [hG] at hN
      rw [c1] at eN
      rw [c2] at eF
      have d3:decide (f.args<0)=false:=by simpa using c3
      have d4:decide (4<f.args)=true:=by simpa using c4
      simp [go_sem,AB,AG,gF,eN,gx1,eF,d3,d4]
      exact h2 hN _ _ rfl
    ·have hG:En fs f i=false:=by simp [En,c3]
     rw [hG] at hN
     rw [c1] at eN
     rw [c2] at eF
     have d3:decide (f.args<0)=true:=by simpa using c3
     simp [go_sem,AB,AG,gF,eN,gx1,eF,d3]
     exact h2 hN _ _ rfl
   ·have hG:En fs f i=false:=by simp [En,c2]
    rw [hG] at hN
    rw [c1] at eN
    have d2:(Ay f.name fs 0 != (i:Int))=true:=by simpa using c2
    simp [go_sem,AB,AG,gF,eN,gx1,eF,d2]
    exact h2 hN _ _ rfl
  ·have c1':FL f.name=false:=by simpa using c1
   have hG:En fs f i=false:=by simp [En,c1']
   rw [hG] at hN
   rw [c1'] at eN
   simp [go_sem,AB,AG,gF,eN]
   exact h2 hN _ _ rfl
theorem SS (hv:FV g fa fs):call tb prim GZ [.agg [.int .i64 p,.int .i64 m,fa]] bar g=some (.bool (FM fs fs.length 0),g):=by
 refine AQ SP (AZ rfl rfl (BJ ?_))
 have hv1:FV (g.alloc (.cells [.int .i64 p,.int .i64 m,fa] 0)) fa fs:=hv.keep (by simp [AP]) (fun j hj=>by rw [AK,if_neg (by have:=hv.at_lt' hj;omega)])
 simp [f_unit_named,AO,go_sem,AB,AG,hv.one,hv.len,AK]
 refine Px (bar:=g.n) (b:=g.n+1) (p:=p) (m:=m) (by omega) _ g.n (by omega) fs.length 0 _ (by omega) (by simp [AP]) hv1 (by simp [AK]) (fun h e g'=>?_) (fun h e g' he=>?_)
 ·simp [go_sem,AN,AM,AA,AE,AD,AC,AV.free.freeL,AV.free,AF,AH,h]
 ·simp [go_sem,AN,AM,AA,AE,AD,AC,AV.free.freeL,AV.free,AF,AH,he,h]
theorem QO (Q:Ex→Env→H→Prop) (bx:Nat):∀ (k i:Nat),fs.length=i+k→FV g fa fs→g.get bx=some (.cells [.int .i64 p,.int .i64 m,fa] 0) →
  (GE fs k i=0→∀ e g',Q (.exit 1) e g')→(∀ x,GE fs k i=x→∀ e g',e.get 2=some (.int .i64 x)→Q .ret e g') →
  CW (call tb prim) bar [1,33,34] HH [(1,.ptr bx 0),(33,As fs.length),(34,As i)] g Q
 | 0,i,hk,hv,hgx,h1,h2=>by
  refine Ad HH.eq_1 ?_
  have hlt:¬ (i:Int)<(fs.length:Int):=by omega
  simp [go_sem,As,hlt]
  exact h1 rfl _ _
 | k+1,i,hk,hv,hgx,h1,h2=>by
  refine Ad HH.eq_1 ?_
  have hi:i<fs.length:=by omega
  have hlt:(i:Int)<(fs.length:Int):=by omega
  have hw:=BF (n:=i) (by have:=hv.2.1;omega)
  obtain ⟨a,eF,_⟩:=Rq (bar:=bar) (p:=p) (m:=m) fs (i:Int) hv
  by_cases hc:Nd fs i=0
  ·have hN:GE fs (k+1) i=GE fs k (i+1):=by rw [GE,if_neg (by simpa using hc)]
   have hc':(Cl (fun l=>(BW l).isSome) fs i).2=0:=hc
   rw [hc'] at eF
   simp [go_sem,AB,AG,As,hlt,hgx,eF,hw]
   exact QO Q bx k (i+1) (by omega) hv hgx (fun h=>h1 (by rw [hN];exact h)) (fun x h=>h2 x (by rw [hN];exact h))
  ·have hN:GE fs (k+1) i=Nd fs i:=by rw [GE,if_pos hc]
   have hb:((Cl (fun l=>(BW l).isSome) fs i).2 != 0)=true:=by
    have hc':¬ (Cl (fun l=>(BW l).isSome) fs i).2=0:=hc
    simpa using hc'
   simp [go_sem,AB,AG,As,hlt,hgx,eF,hb]
   exact h2 _ hN _ _ rfl
theorem SQ (hv:FV g fa fs):call tb prim GY [.agg [.int .i64 p,.int .i64 m,fa]] bar g=some (.int .i64 (Co p m fs),g):=by
 refine AQ SO (AZ rfl rfl (BJ ?_))
 have hv1:FV (g.alloc (.cells [.int .i64 p,.int .i64 m,fa] 0)) fa fs:=hv.keep (by simp [AP]) (fun j hj=>by rw [AK,if_neg (by have:=hv.at_lt' hj;omega)])
 have eN:=SS (bar:=g.n) (p:=p) (m:=m) hv1
 have hlen:=hv.len
 by_cases c1:p<0∨m<p∨64<m
 ·have hR:Co p m fs=25:=by unfold Co;rw [if_pos c1]
  rw [hR]
  by_cases d1:p<0
  ·have e1:decide (p<0)=true:=by simpa using d1
   simp [f_unit_Right,AO,go_sem,AB,AG,hv.one,hlen,e1]
   simp [go_sem,AN,AM,AA,AE,AD,AC,AV.free.freeL,AV.free,AF,AH]
  ·have e1:decide (p<0)=false:=by simpa using d1
   by_cases d2:m<p
   ·have e2:decide (m<p)=true:=by simpa using d2
    simp [f_unit_Right,AO,go_sem,AB,AG,hv.one,hlen,e1,e2]
    simp [go_sem,AN,AM,AA,AE,AD,AC,AV.free.freeL,AV.free,AF,AH]
   ·have e2:decide (m<p)=false:=by simpa using d2
    have e3:decide (64<m)=true:=by simp;omega
    simp [f_unit_Right,AO,go_sem,AB,AG,hv.one,hlen,e1,e2,e3]
    simp [go_sem,AN,AM,AA,AE,AD,AC,AV.free.freeL,AV.free,AF,AH]
 ·have e1:decide (p<0)=false:=by simp;omega
  have e2:decide (m<p)=false:=by simp;omega
  have e3:decide (64<m)=false:=by simp;omega
  by_cases c2:32<fs.length
  ·have hR:Co p m fs=3:=by unfold Co;rw [if_neg c1,if_pos c2]
   have e4:decide ((32:Int)<(fs.length:Int))=true:=by simp;omega
   rw [hR]
   simp [f_unit_Right,AO,go_sem,AB,AG,hv.one,hlen,As,e1,e2,e3,e4]
   simp [go_sem,AN,AM,AA,AE,AD,AC,AV.free.freeL,AV.free,AF,AH]
  ·have e4:decide ((32:Int)<(fs.length:Int))=false:=by simp;omega
   by_cases c3:FM fs fs.length 0=true
   ·have hR:Co p m fs=GE fs fs.length 0:=by unfold Co;rw [if_neg c1,if_neg c2,if_pos c3]
    rw [hR]
    rw [c3] at eN
    simp [f_unit_Right,AO,go_sem,AB,AG,hv.one,hlen,As,e1,e2,e3,e4,eN]
    refine QO (p:=p) (m:=m) _ g.n fs.length 0 (by omega) hv1 (by simp [AK]) (fun h e g'=>?_) (fun x h e g' he=>?_)
    ·simp [go_sem,AN,AM,AA,AE,AD,AC,AV.free.freeL,AV.free,AF,AH,h]
    ·simp [go_sem,AN,AM,AA,AE,AD,AC,AV.free.freeL,AV.free,AF,AH,he,h]
   ·have c3':FM fs fs.length 0=false:=by simpa using c3
    have hR:Co p m fs=12:=by unfold Co;rw [if_neg c1,if_neg c2,if_neg c3]
    rw [hR]
    rw [c3'] at eN
    simp [f_unit_Right,AO,go_sem,AB,AG,hv.one,hlen,As,e1,e2,e3,e4,eN]
    simp [go_sem,AN,AM,AA,AE,AD,AC,AV.free.freeL,AV.free,AF,AH]
end
end Go.Ev
set_option linter.unusedSectionVars false
namespace Go.Ev
open Go
def AV.stay:AV→Bool
 | .sl ..=>false
 | .agg _=>false
 | _=>true
theorem Ng {bar d:Nat} {h:H} {v:AV} (hv:v.stay=true):AC bar (d+1) h v=some (v,h):=by
 cases v<;>first | (cases hv;done) | (simp [AC])
theorem Hr {bar d:Nat} {h:H}:∀ {cs:List AV},cs.all AV.stay=true→AD bar (d+1) h cs=some (cs,h)
 | [],_=>by simp [AD]
 | v::r,hc=>by
  rw [List.all_cons,Bool.and_eq_true] at hc
  simp [AD,Ng hc.1,Hr hc.2]
theorem OS.freeze' {k:Nat} {h:H} {bar:Nat} {a:AV} {n:Nat} {cs:List AV} (v:OS k h bar a n cs) (hc:cs.all AV.stay=true) (hf:cs.all AV.free=true) (hn:n≤9223372036854775807) (d:Nat):∃ a' h',AC bar (d+2) h a=some (a',h')∧FzV k a' n cs:=by
 obtain ⟨h1,h2,⟨rfl,rfl⟩ | ⟨id,rest,rfl,g1,g2,g3⟩⟩:=v
 ·exact ⟨.nilsl,h,by simp [AC],h1,hn,.inl ⟨rfl,rfl⟩⟩
 ·refine ⟨.fz k n cs false,h.set id (.cells (cs++rest) (max 0 (0+n*k))),?_,h1,hn,.inr ⟨false,rfl⟩⟩
  have hcs:((cs++rest).drop 0).take (n*k)=cs:=by rw [List.drop_zero,← h1,List.take_left]
  simp only [AC,g3]
  rw [if_pos ⟨g1,by simp [h1]⟩,hcs,Hr hc]
  simp only
  rw [if_pos ⟨hf,h2⟩]
theorem FzV.stay {k:Nat} {a:AV} {n:Nat} {cs:List AV} (v:FzV k a n cs):a.stay=true:=by
 obtain ⟨_,_,⟨rfl,_⟩ | ⟨full,rfl⟩⟩:=v<;>rfl
def codeW (f:Fn):Code':=⟨(Bt f.code).1,(BW (Bt f.code).1).getD [],f.args⟩
def WD (f:Fn):Prop:=∃ to,BW (Bt f.code).1=some to∧∀ x ∈ to,x≤2000
def RowsV (fs:List Fn) (rows:List (AV × AV × Code')):Prop:=∀ (j:Nat) (x:AV × AV × Code'),rows[j]? = some x→∃ f,fs[j]? = some f∧x.2.2=codeW f∧ST x.2.2 x.1 x.2.1
theorem RowsV.all {fs:List Fn} {rows:List (AV × AV × Code')} (v:RowsV fs rows) (p:AV→Bool) (hi:∀ n,p (.int .i64 n)=true) (hz:∀ k a n cs,FzV k a n cs→p a=true):(rows.flatMap Kt).all p=true:=by
 rw [List.all_eq_true]
 intro y hy
 obtain ⟨x,hx,hyx⟩:=List.mem_flatMap.mp hy
 obtain ⟨j,hj⟩:=List.mem_iff_getElem?.mp hx
 obtain ⟨f,_,_,hc⟩:=v j x hj
 simp only [Kt,List.mem_cons,List.not_mem_nil,or_false] at hyx
 rcases hyx with rfl | rfl | rfl
 ·exact hz _ _ _ _ hc.1.1
 ·exact hz _ _ _ _ hc.1.2
 ·exact hi _
theorem dD (a b c:AV) (h1:a.one=true) (h2:b.one=true) (h3:c.one=true):Af [.nilsl,.nilsl,.int .i64 0] [(0,1,a),(1,1,b),(2,1,c)]=some [a,b,c]:=by
 have e1:=GO h1
 have e2:=GO h2
 have e3:=GO h3
 have d1:a.cells.length=1∧0+1≤([.nilsl,.nilsl,.int .i64 0]:List AV).length∧a.cells.all AV.one=true:=⟨by rw [e1];rfl,by simp,by rw [e1];simp [h1]⟩
 have d2:b.cells.length=1∧1+1≤(AL ([.nilsl,.nilsl,.int .i64 0]:List AV) 0 a.cells).length∧b.cells.all AV.one=true:=⟨by rw [e2];rfl,by rw [e1];simp [AL],by rw [e2];simp [h2]⟩
 have d3:c.cells.length=1∧2+1≤(AL (AL ([.nilsl,.nilsl,.int .i64 0]:List AV) 0 a.cells) 1 b.cells).length∧c.cells.all AV.one=true:=⟨by rw [e3];rfl,by rw [e1,e2];simp [AL],by rw [e3];simp [h3]⟩
 simp only [Af]
 rw [if_pos d1,if_pos d2,if_pos d3,e1,e2,e3]
 rfl
theorem bD (a b c:AV) (h1:a.one=true) (h2:b.one=true) (h3:c.one=true):Af [.nilsl,.nilsl,.int .i64 0] [(0,3,.agg [a,b,c])]=some [a,b,c]:=by
 simp only [Af]
 rw [if_pos ⟨rfl,by simp,by simp [AV.cells,h1,h2,h3]⟩]
 rfl
section
variable {bar:Nat} {g:H} {fa:AV} {fs:List Fn} {p m:Int}
theorem Pj (hto:∀ f ∈ fs,WD f) (hl32:fs.length≤1000) (hfa:∀ j,fa.isAt j→j<bar) (Q:Ex→Env→H→Prop):∀ (k i:Nat) (g:H) (oa:AV) (rows:List (AV × AV × Code')),fs.length=i+k→bar≤g.n→FV g fa fs→OS 3 g bar oa i (rows.flatMap Kt)→rows.length=i→RowsV fs rows →
  (∀ e g' oa' rows',OS 3 g' bar oa' fs.length (rows'.flatMap Kt)→rows'.length=fs.length→RowsV fs rows'→e.get 3=some oa'→Q (.exit 0) e g') →
  CW (call tb prim) bar [3,11,12,13] GH [(3,oa),(11,fa),(12,As fs.length),(13,As i)] g Q
 | 0,i,g,oa,rows,hk,hbg,hv,ho,hr,hR,hq=>by
  refine Ad GH.eq_1 ?_
  have hlt:¬ (i:Int)<(fs.length:Int):=by omega
  simp [go_sem,As,hlt]
  have hi:i=fs.length:=by omega
  exact hq _ _ oa rows (hi ▸ ho) (by omega) hR rfl
 | k+1,i,g,oa,rows,hk,hbg,hv,ho,hr,hR,hq=>by
  refine Ad GH.eq_1 ?_
  have hi:i<fs.length:=by omega
  have hlt:(i:Int)<(fs.length:Int):=by omega
  have hw:=BF (n:=i) (by have:=hv.2.1;omega)
  obtain ⟨f,hf⟩:∃ f,f=fs[i]:=⟨_,rfl⟩
  have hfi:fs[i]? = some f:=by rw [hf];exact List.getElem?_eq_getElem hi
  obtain ⟨to,hto1,hto2⟩:=hto f (List.mem_of_getElem? hfi)
  have hcto:(codeW f).to=to:=by unfold codeW;simp only [hto1,Option.getD_some]
  obtain ⟨g1,hg1⟩:∃ g1,g1=(g.alloc (.cells [.int .i32 0,.int .i64 0,.str ⟨#[]⟩] 0)).set g.n (.cells [.int .i32 f.name,.int .i64 f.args,.str f.code] 0):=⟨_,rfl⟩
  have n1:g1.n=g.n+1:=by rw [hg1];rfl
  have k1:∀ j,j<g.n→g1.get j=g.get j:=fun j hj=>by rw [hg1,AI (by omega),AK,if_neg (by omega)]
  have gF:g1.get g.n=some (.cells [.int .i32 f.name,.int .i64 f.args,.str f.code] 0):=by rw [hg1,AU,if_pos rfl]
  have o1:OS 3 g1 bar oa i (rows.flatMap Kt):=ho.mono (by omega) (fun j hj=>k1 j (ho.ow.at_lt hj).2)
  obtain ⟨la,eT,hla,hll⟩:=Hs (bar:=bar) (h:=g1) f.code
  have eO:=Pz (pr:=prim) (bar:=bar) (g:=g1) (Bt f.code).1 la hla (by omega)
  rw [hto1] at eO
  obtain ⟨ta,eO,hta,htl⟩:=eO
  have h1:=hla.one
  have h2:=hta.one
  have hfill:=dD la ta (.int .i64 f.args) h1 h2 rfl
  have hfill2:=bD la ta (.int .i64 f.args) h1 h2 rfl
  obtain ⟨oa',g2,eA,o2,n2,f2,_⟩:=o1.app (by omega) 56 [la,ta,.int .i64 f.args] rfl (by
   show (la.one&&(ta.one&&(true&&true)))=true
   rw [h1,h2];rfl) (by omega) (by omega) (by omega)
  have hv2:FV g2 fa fs:=hv.keep (by omega) (fun j hj=>by rw [f2 j (by have:=hfa j hj;omega) (fun q=>by have:=(ho.ow.at_lt q).1;have:=hfa j hj;omega)];exact k1 j (by have:=hfa j hj;omega))
  have hall:([la,ta,.int .i64 f.args]:List AV).all AV.one=true:=by
   show (la.one&&(ta.one&&(true&&true)))=true
   rw [h1,h2];rfl
  simp [go_sem,As,hlt]
  refine WK hv hi fun u=>?_
  rw [← hf]
  simp [go_sem,AB,AG,Fn.cells,eP,hbg]
  rw [← hg1]
  simp [go_sem,AB,AG,gF,eT,eO,AX,hfill,hfill2,hall,h1,h2]
  rw [eA]
  simp [go_sem,AB,hw]
  have hrow:((rows++[(la,ta,codeW f)]).flatMap Kt)=rows.flatMap Kt++[la,ta,.int .i64 f.args]:=by simp [List.flatMap_append,Kt,codeW]
  refine Pj hto hl32 hfa Q k (i+1) g2 oa' (rows++[(la,ta,codeW f)]) (by omega) (by omega) hv2 (by rw [hrow];exact o2) (by simp;omega) (fun j x hx=>?_) hq
  by_cases hj:j<rows.length
  ·rw [List.getElem?_append_left hj] at hx
   exact hR j x hx
  ·have hj2:j=i:=by
    have:=(List.getElem?_eq_some_iff.mp hx).1
    simp at this;omega
   subst hj2
   rw [List.getElem?_append_right (by omega),hr,Nat.sub_self] at hx
   cases hx
   refine ⟨f,hfi,rfl,⟨hla,?_⟩,by show (Bt f.code).1.length≤_;omega,?_,?_⟩
   ·show FzV 1 ta (codeW f).to.length ((codeW f).to.flatMap i64c);rw [hcto];exact hta
   ·show (codeW f).to.length≤_;rw [hcto];omega
   ·show ∀ x ∈ (codeW f).to,x≤_;rw [hcto];exact hto2
theorem Pm (hv:FV g fa fs) (hto:∀ f ∈ fs,WD f) (hl32:fs.length≤1000) :
  ∃ ca rows,call tb prim Fa [.agg [.int .i64 p,.int .i64 m,fa]] bar g=some (ca,g)∧FzV 3 ca rows.length (rows.flatMap Kt)∧rows.length=fs.length∧RowsV fs rows:=by
 suffices hw:∃ r,BK (call tb prim) f_engine_codes [.agg [.int .i64 p,.int .i64 m,fa]] bar g=some (r,g)∧∃ rows,FzV 3 r rows.length (rows.flatMap Kt)∧rows.length=fs.length∧RowsV fs rows by
  obtain ⟨r,h1,rows,h2,h3⟩:=hw;exact ⟨r,rows,AQ QW h1,h2,h3⟩
 refine CG rfl rfl fun K hK=>?_
 have hv1:FV (g.alloc (.cells [.int .i64 p,.int .i64 m,fa] 0)) fa fs:=hv.keep (by simp [AP]) (fun j hj=>by rw [AK,if_neg (by have:=hv.at_lt' hj;omega)])
 simp [f_engine_codes,AO,go_sem,AB,AG,hv.one,hv.len,AK]
 refine Pj (bar:=g.n) hto hl32 (fun j hj=>hv.at_lt' hj) _ fs.length 0 _ .nilsl [] (by omega) (by simp [AP]) hv1 OS.nil rfl (fun j x hx=>by simp at hx) (fun e g' oa' rows' h1 h2 h3 h4=>?_)
 obtain ⟨a',h',h5,h6⟩:=h1.freeze' (h3.all _ (fun _=>rfl) (fun _ _ _ _ v=>v.stay)) (h3.all _ (fun _=>rfl) (fun _ _ _ _ v=>v.free)) (by omega) 2
 simp [go_sem,Bf,AA,AE,AD,AV.free.freeL,AF,h4,h5,h6.free,AC,AV.free]
 exact hK _ ⟨rows',by rw [h2];exact h6,h2,h3⟩
end
end Go.Ev
set_option linter.unusedSectionVars false
namespace Go.Ev
open Go
structure CJ (fs:List Fn) (c:Code') (J:Nat→Js):Prop where
 seq:∃ P,Seqs fs c.l P J∧(P c.l.length).to=c.to
 a0:0≤c.args
 a4:c.args≤4
theorem Rd (fs:List Fn):∀ (k i:Nat),FM fs k i=true→∀ j f,i≤j→j<i+k→fs[j]? = some f→En fs f j=true
 | 0,i,_,j,f,h1,h2,_=>by omega
 | k+1,i,h,j,f,h1,h2,h3=>by
  rw [FM] at h
  by_cases c:i=j
  ·subst c
   rw [h3] at h
   simp only at h
   split at h
   ·assumption
   ·cases h
  ·refine Rd fs k (i+1) ?_ j f (by omega) (by omega) h3
   have hi:i<fs.length:=by
    obtain ⟨q,_⟩:=List.getElem?_eq_some_iff.mp h3;omega
   rw [List.getElem?_eq_getElem hi] at h
   simp only at h
   split at h
   ·exact h
   ·cases h
theorem Sy (fs:List Fn):∀ (k i:Nat),GE fs k i=0→∀ j,i≤j→j<i+k→Nd fs j=0
 | 0,i,_,j,h1,h2=>by omega
 | k+1,i,h,j,h1,h2=>by
  rw [GE] at h
  split at h
  ·rename_i c;exact absurd h c
  ·rename_i c
   by_cases e:i=j
   ·subst e;exact Decidable.not_not.mp c
   ·exact Sy fs k (i+1) h j (by omega) (by omega)
structure RightP (fs:List Fn):Prop where
 good:∀ (i:Nat) f,fs[i]? = some f→En fs f i=true
 code:∀ f ∈ fs,∃ J,CJ fs (codeW f) J
 len:fs.length≤32
theorem Te {p m:Int} {fs:List Fn} (h:Co p m fs=0):RightP fs∧0≤p∧p≤m∧m≤64:=by
 unfold Co at h
 split at h
 ·cases h
 rename_i c1
 split at h
 ·cases h
 rename_i c2
 split at h
 case isFalse=>cases h
 rename_i c3
 have hg:∀ (i:Nat) f,fs[i]? = some f→En fs f i=true:=fun i f hf=>by
  obtain ⟨hi,_⟩:=List.getElem?_eq_some_iff.mp hf
  exact Rd fs _ 0 c3 i f (by omega) (by omega) hf
 refine ⟨⟨hg,fun f hf=>?_,by omega⟩,by omega,by omega,by omega⟩
 obtain ⟨i,hi⟩:=List.mem_iff_getElem?.mp hf
 obtain ⟨hil,_⟩:=List.getElem?_eq_some_iff.mp hi
 have h0:=Sy fs _ 0 h i (by omega) (by omega)
 have hga:=hg i f hi
 unfold En at hga
 simp only [Bool.and_eq_true,decide_eq_true_eq,beq_iff_eq] at hga
 unfold Nd Cl at h0
 rw [if_neg (by omega),Int.toNat_natCast,hi] at h0
 simp only at h0
 split at h0
 ·rename_i c4;exact absurd h0 c4
 unfold Eh at h0
 split at h0
 ·cases h0
 rename_i c5
 split at h0
 ·rename_i c6;exact absurd h0 c6
 rename_i c6
 split at h0
 ·cases h0
 rename_i c7
 cases hn:BW (BP f.code).1 with
 | none=>rw [hn] at c5;exact absurd rfl c5
 | some to =>
  obtain ⟨P,J,hS,hto⟩:=aJ (fs:=fs) hn (Decidable.not_not.mp c6) (by omega)
  refine ⟨J,⟨P,?_,?_⟩,hga.1.2,hga.2⟩
  ·show Seqs fs (Bt f.code).1 P J
   rw [Ql];exact hS
  ·show (P (Bt f.code).1.length).to=(BW (Bt f.code).1).getD []
   rw [Ql,hn];exact hto
def FI (fs:List Fn) (f:Fm):Prop:=∃ J,CJ fs f.c J∧f.at'≤f.c.l.length∧f.loc.length=26∧(f.st.length:Int)=jE f.c.l J f.at'
def WI (fs:List Fn) (f:Fm):Prop:=∃ J,CJ fs f.c J∧f.at'≤f.c.l.length∧f.loc.length=26∧(f.st.length:Int)+1=jE f.c.l J f.at'
def aY (fs:List Fn) (s:Mc):Prop:=∃ f r,s.fr=f::r∧FI fs f∧∀ g ∈ r,WI fs g
theorem RU {fs:List Fn}:∀ (r:List Fm) (f:Fm),FI fs f→(∀ g ∈ r,WI fs g)→∃ x,EC f r=some x∧(x.2=none→∃ f' r',x.1=f'::r'∧FI fs f'∧(∀ g ∈ r',WI fs g)∧f'.at'<f'.c.l.length)
 | r,f,hf,hr=>by
  by_cases c:f.at'<f.c.l.length
  ·refine ⟨(f::r,none),?_,fun _=>⟨f,r,rfl,hf,hr,c⟩⟩
   cases r<;>(unfold EC;rw [if_pos c])
  ·obtain ⟨J,⟨⟨P,hS,hto⟩,a0,a4⟩,h1,h2,h3⟩:=hf
   have he:f.at'=f.c.l.length:=by omega
   have hE:jE f.c.l J f.at'=(J f.c.l.length).h:=by
    unfold jE;rw [if_neg,he]
    rw [he];unfold Ah;rw [List.getElem?_eq_none (Nat.le_refl _)];simp
   rw [hE] at h3
   have h4:f.st.length=1:=by have:=hS.je;omega
   match hst:f.st,h4 with
   | [v],_ =>
    match r,hr with
    | [],hr=>exact ⟨([],some v),by unfold EC;rw [if_neg c,hst],fun q=>by cases q⟩
    | g::r,hr =>
     obtain ⟨J2,hc2,g1,g2,g3⟩:=hr g (List.mem_cons_self ..)
     have:=RU r { g with st:=v::g.st } ⟨J2,hc2,g1,g2,by simpa using g3⟩ (fun x hx=>hr x (List.mem_cons_of_mem _ hx))
     obtain ⟨x,e1,e2⟩:=this
     refine ⟨x,?_,e2⟩
     unfold EC;rw [if_neg c,hst]
     exact e1
theorem Sq (sg a b:Int):0≤(DX sg a b).2∧(DX sg a b).2≤7∧(DX sg a b).2≠1:=by
 have k:∀ x t:Int,0≤t→t≤7→t≠1→(0≤((x,t):Int × Int).2∧((x,t):Int × Int).2≤7∧((x,t):Int × Int).2≠1):=fun x t a b c=>⟨a,b,c⟩
 unfold DX
 by_cases c0:sg=43
 ·rw [if_pos c0];exact k _ _ (by omega) (by omega) (by omega)
 rw [if_neg c0]
 by_cases c1:sg=45
 ·rw [if_pos c1];exact k _ _ (by omega) (by omega) (by omega)
 rw [if_neg c1]
 by_cases c2:sg=42
 ·rw [if_pos c2];exact k _ _ (by omega) (by omega) (by omega)
 rw [if_neg c2]
 by_cases c3:sg=47∨sg=37
 ·rw [if_pos c3]
  unfold LO
  by_cases d0:b=0
  ·rw [if_pos d0];exact k _ _ (by omega) (by omega) (by omega)
  rw [if_neg d0]
  by_cases d1:sg=37∧b=-1
  ·rw [if_pos d1];exact k _ _ (by omega) (by omega) (by omega)
  rw [if_neg d1]
  by_cases d2:sg=37
  ·rw [if_pos d2];exact k _ _ (by omega) (by omega) (by omega)
  rw [if_neg d2]
  by_cases d3:a=-9223372036854775808∧b=-1
  ·rw [if_pos d3];exact k _ _ (by omega) (by omega) (by omega)
  rw [if_neg d3]
  exact k _ _ (by omega) (by omega) (by omega)
 rw [if_neg c3]
 by_cases c4:sg=38
 ·rw [if_pos c4];exact k _ _ (by omega) (by omega) (by omega)
 rw [if_neg c4]
 by_cases c5:sg=124
 ·rw [if_pos c5];exact k _ _ (by omega) (by omega) (by omega)
 rw [if_neg c5]
 by_cases c6:sg=94
 ·rw [if_pos c6];exact k _ _ (by omega) (by omega) (by omega)
 rw [if_neg c6]
 by_cases c7:sg=60
 ·rw [if_pos c7];exact k _ _ (by omega) (by omega) (by omega)
 rw [if_neg c7]
 by_cases c8:sg=61
 ·rw [if_pos c8];exact k _ _ (by omega) (by omega) (by omega)
 rw [if_neg c8]
 by_cases c9:sg=33
 ·rw [if_pos c9];exact k _ _ (by omega) (by omega) (by omega)
 rw [if_neg c9]
 by_cases c10:sg=171
 ·rw [if_pos c10];exact k _ _ (by omega) (by omega) (by omega)
 rw [if_neg c10]
 by_cases c11:sg=187
 ·rw [if_pos c11];exact k _ _ (by omega) (by omega) (by omega)
 rw [if_neg c11]
 exact k _ _ (by omega) (by omega) (by omega)
section
variable {fs:List Fn}
theorem FI.next {f:Fm} {J:Nat→Js} (hc:CJ fs f.c J) (hi:f.at'<f.c.l.length) {st:List Int} {loc:List Int} (hl:loc.length=26) (hn:(st.length:Int)=(J (f.at'+1)).h):FI fs { f with at':=f.at'+1,st:=st,loc:=loc }:=by
 obtain ⟨⟨P,hS,hto⟩,a0,a4⟩:=hc
 exact ⟨J,⟨⟨P,hS,hto⟩,a0,a4⟩,hi,hl,by
  show (st.length:Int)=jE f.c.l J (f.at'+1)
  rw [hS.alive (by omega)];exact hn⟩
theorem FI.goto {f:Fm} {J:Nat→Js} (hc:CJ fs f.c J) {j:Nat} (hi:j≤f.c.l.length) {st:List Int} (hl:f.loc.length=26) (hn:(st.length:Int)=jE f.c.l J j):FI fs { f with at':=j,st:=st } :=
 ⟨J,hc,hi,hl,hn⟩
def Qf (t:Int):Prop:=0≤t∧t≤7∧t≠1
theorem Lg {b:Bool} {t s:Int} (h1:Qf t) (h2:Qf s):Qf (Fh b t s):=by unfold Fh;split<;>assumption
theorem XR (hP:RightP fs) {s:Mc} {f:Fm} {r:List Fm} (hs:s.fr=f::r) (hf:FI fs f) (hw:∀ g ∈ r,WI fs g) (hlt:f.at'<f.c.l.length) (ht:s.trap=0) :
  ∃ s',IZ fs (fs.map codeW) s=some s'∧Qf s'.trap∧(s'.trap=0→aY fs s'):=by
 obtain ⟨J,hc,h1,hloc,hst⟩:=hf
 obtain ⟨P,hS,hto⟩:=hc.seq
 have hcl:=hc.a0
 obtain ⟨t,h',hti,hsg,htk,_,hj,hd,ha⟩:=hS.eff hlt
 have t0:Qf 0:=⟨by omega,by omega,by omega⟩
 have hr:=hS.rel f.at' (by omega)
 have hb:=(KJ hr.ok).1
 have mi:∀ {s':Mc} {f':Fm},s'.fr=f'::r→FI fs f'→aY fs s':=fun {s' f'} e q=>⟨f',r,e,q,hw⟩
 rw [hsg] at hj hd
 
 have hne:t.sign≠59→(J f.at').h=f.st.length:=fun e=>by
  unfold jE at hst;rw [hsg,if_neg e] at hst;exact hst.symm
 have hpl:t.sign≠59→t.sign≠58→t.sign≠93→t.sign≠126→t.sign≠161→(J (f.at'+1)).h=f.st.length+((Am fs t.sign t.name).2.1 - (Am fs t.sign t.name).1)∧(Am fs t.sign t.name).1≤f.st.length:=fun e1 e2 e3 e4 e5=>by
  have hh:=hne e1
  obtain ⟨q1,q2⟩:=ha (by omega)
  refine ⟨?_,by omega⟩
  rw [hj]
  unfold Al
  by_cases c:t.sign=63∨t.sign=91
  ·rw [if_pos c];show h'=_;omega
  ·rw [if_neg c,if_neg e2,if_neg e1,if_neg e3,if_neg e4,if_neg e5];show h'=_;omega
 have hcs:∀ {a:Code'},(fs.map codeW)[(Ay t.name fs 0).toNat]? = some a→∃ J,CJ fs a J:=fun {a} e=>by
  rw [List.getElem?_map] at e
  cases hfk:fs[(Ay t.name fs 0).toNat]? with
  | none=>rw [hfk] at e;cases e
  | some g =>
   rw [hfk] at e;injection e with e;subst e
   exact hP.code g (List.mem_of_getElem? hfk)
 unfold IZ
 rw [hs]
 simp only
 rw [hti]
 simp only
 by_cases c1:t.sign=48
 ·rw [if_pos c1]
  have:=hpl (by omega) (by omega) (by omega) (by omega) (by omega)
  rw [T1 (.inl c1)] at this
  exact ⟨_,rfl,by rw [ht];exact t0,fun _=>mi rfl (FI.next hc hlt hloc (by simp at this ⊢;omega))⟩
 rw [if_neg c1]
 by_cases c2:97≤t.sign∧t.sign≤122
 ·rw [if_pos c2]
  have:=hpl (by omega) (by omega) (by omega) (by omega) (by omega)
  rw [T1 (.inr (.inl c2))] at this
  rw [List.getElem?_eq_getElem (by omega)]
  exact ⟨_,rfl,by rw [ht];exact t0,fun _=>mi rfl (FI.next hc hlt hloc (by simp at this ⊢;omega))⟩
 rw [if_neg c2]
 by_cases c3:65≤t.sign∧t.sign≤90
 ·rw [if_pos c3]
  have:=hpl (by omega) (by omega) (by omega) (by omega) (by omega)
  rw [T2 (.inl c3)] at this
  cases hq:f.st with
  | nil=>rw [hq] at this;simp at this
  | cons v st=>rw [hq] at this;exact ⟨_,rfl,by rw [ht];exact t0,fun _=>mi rfl (FI.next hc hlt (by simpa using hloc) (by simp at this ⊢;omega))⟩
 rw [if_neg c3]
 by_cases c4:t.sign=955
 ·rw [if_pos c4]
  have:=hpl (by omega) (by omega) (by omega) (by omega) (by omega)
  rw [T9 c4] at this htk
  unfold IV at this htk
  cases hk:fs[(Ay t.name fs 0).toNat]? with
  | none=>rw [hk] at htk;cases htk
  | some g =>
   rw [hk] at this htk
   simp only at this htk
   split at htk
   case isFalse=>cases htk
   rename_i c5
   rw [if_pos c5] at this
   have hcg:(fs.map codeW)[(Ay t.name fs 0).toNat]? = some (codeW g):=by rw [List.getElem?_map,hk];rfl
   rw [hcg]
   simp only
   have hga:(codeW g).args=g.args:=rfl
   rw [if_neg (by rw [hga];simp only at this;omega)]
   simp only at this
   have hlen:((f.st.drop (codeW g).args.toNat).length:Int)=f.st.length - g.args:=by rw [List.length_drop,hga];omega
   by_cases c6:32≤s.fr.length
   ·rw [hs] at c6
    rw [if_pos c6]
    exact ⟨_,rfl,⟨by show (0:Int)≤6;omega,by show (6:Int)≤7;omega,by show (6:Int)≠1;omega⟩,fun q=>by cases q⟩
   ·rw [hs] at c6
    rw [if_neg c6]
    refine ⟨_,rfl,by rw [ht];exact t0,fun _=>⟨_,_,rfl,?_,?_⟩⟩
    ·obtain ⟨J2,hc2⟩:=hcs hcg
     obtain ⟨P2,hS2,_⟩:=hc2.seq
     have ha4:=hc2.a4
     have ha0:=hc2.a0
     refine ⟨J2,hc2,Nat.zero_le _,?_,?_⟩
     ·show ((Ef (codeW g).args.toNat f.st).take 26++List.replicate (26 - (Ef (codeW g).args.toNat f.st).length) 0).length=26
      have:(Ef (codeW g).args.toNat f.st).length≤4:=by unfold Ef;rw [List.length_reverse,List.length_take];omega
      rw [List.length_append,List.length_take,List.length_replicate];omega
     ·show ((([]:List Int).length:Nat):Int)=jE (codeW g).l J2 0
      have h00:(J2 0).h=0:=by rw [hS2.j0]
      rw [hS2.alive (by omega),h00];rfl
    ·intro x hx
     rw [List.mem_cons] at hx
     rcases hx with rfl | hx
     ·refine ⟨J,hc,hlt,hloc,?_⟩
      show (((f.st.drop (codeW g).args.toNat).length:Nat):Int)+1=jE f.c.l J (f.at'+1)
      rw [hS.alive (by omega),hlen];omega
     ·exact hw x hx
 rw [if_neg c4]
 by_cases c5:Cs t.sign=true
 ·rw [if_pos c5]
  have c5':t.sign=63∨t.sign=58∨t.sign=93∨t.sign=126:=by simpa [Cs] using c5
  have h59:t.sign≠59:=by omega
  have hor:t.sign≠63→t.sign=58∨t.sign=93∨t.sign=126:=by omega
  have hal:(J f.at').h≠-1:=by have:=hne h59;omega
  have hT:=hS.tgt f.at' hlt
  rw [hto] at hT
  obtain ⟨hT1,hT2⟩:=hT
  rw [hsg] at hT1 hT2
  by_cases c6:t.sign=63
  ·rw [if_pos c6]
   have:=hpl (by omega) (by omega) (by omega) (by omega) (by omega)
   rw [T7 c6] at this
   cases hq:f.st with
   | nil=>rw [hq] at this;simp at this
   | cons v st =>
    rw [hq] at this
    have hn:(st.length:Int)=(J (f.at'+1)).h:=by simp at this ⊢;omega
    by_cases c7:v≠0
    ·simp only
     rw [if_pos c7]
     exact ⟨_,rfl,by rw [ht];exact t0,fun _=>mi rfl (FI.next hc hlt hloc hn)⟩
    ·simp only
     rw [if_neg c7]
     obtain ⟨j,j1,j2,j3⟩:=hT1 c6
     rw [j1]
     simp only
     rw [if_neg (Int.not_lt.mpr (Int.natCast_nonneg j)),Int.toNat_natCast]
     exact ⟨_,rfl,by rw [ht];exact t0,fun _=>mi rfl (FI.goto hc j2 hloc (by rw [j3];exact hn))⟩
  ·rw [if_neg c6]
   have hh:=hne h59
   obtain ⟨j,j1,j2,j3⟩:=hT2 (hor c6) hal
   rw [j1]
   simp only
   rw [if_neg (Int.not_lt.mpr (Int.natCast_nonneg j)),Int.toNat_natCast]
   exact ⟨_,rfl,by rw [ht];exact t0,fun _=>mi rfl (FI.goto hc j2 hloc (by rw [j3,hh]))⟩
 rw [if_neg c5]
 have c5':t.sign≠63∧t.sign≠58∧t.sign≠93∧t.sign≠126:=by simp [Cs] at c5;omega
 by_cases c6:Bb t.sign=true
 ·rw [if_pos c6]
  have c6':t.sign=64∨t.sign=169∨t.sign=36∨t.sign=174∨t.sign=35∨t.sign=164:=by simpa [Bb] using c6
  have:=hpl (by omega) (by omega) (by omega) (by omega) (by omega)
  unfold Qt
  by_cases d1:t.sign=64∨t.sign=169
  ·rw [if_pos d1]
   rw [T5 (by simp [GB];omega)] at this
   cases hq:f.st with
   | nil=>rw [hq] at this;simp at this
   | cons v st=>rw [hq] at this;exact ⟨_,rfl,by simp only;rw [ht];exact Lg ⟨by omega,by omega,by omega⟩ t0,fun _=>mi rfl (FI.next hc hlt hloc (by simp at this ⊢;omega))⟩
  rw [if_neg d1]
  by_cases d2:t.sign=36∨t.sign=174
  ·rw [if_pos d2]
   rw [T6 d2] at this
   match hq:f.st,this with
   | [],this=>simp at this
   | [_],this=>simp at this
   | n::a::st,this=>exact ⟨_,rfl,by simp only;rw [ht];exact Lg ⟨by omega,by omega,by omega⟩ t0,fun _=>mi rfl (FI.next hc hlt hloc (by simp at this ⊢;omega))⟩
  rw [if_neg d2]
  by_cases d3:t.sign=35
  ·rw [if_pos d3]
   rw [T1 (.inr (.inr d3))] at this
   exact ⟨_,rfl,by rw [ht];exact t0,fun _=>mi rfl (FI.next hc hlt hloc (by simp at this ⊢;omega))⟩
  rw [if_neg d3]
  rw [T5 (by simp [GB];omega)] at this
  cases hq:f.st with
  | nil=>rw [hq] at this;simp at this
  | cons v st=>rw [hq] at this;exact ⟨_,rfl,by rw [ht];exact t0,fun _=>mi rfl (FI.next hc hlt hloc (by simp at this ⊢;omega))⟩
 rw [if_neg c6]
 have c6':t.sign≠64∧t.sign≠169∧t.sign≠36∧t.sign≠174∧t.sign≠35∧t.sign≠164:=by simp [Bb] at c6;omega
 unfold Ig
 by_cases d1:t.sign=46
 ·rw [if_pos d1]
  have:=hpl (by omega) (by omega) (by omega) (by omega) (by omega)
  rw [T3 d1] at this
  cases hq:f.st with
  | nil=>rw [hq] at this;simp at this
  | cons v st=>rw [hq] at this;exact ⟨_,rfl,by rw [ht];exact t0,fun _=>mi rfl (FI.next hc hlt hloc (by simp at this ⊢;omega))⟩
 rw [if_neg d1]
 by_cases d2:t.sign=44
 ·rw [if_pos d2]
  have:=hpl (by omega) (by omega) (by omega) (by omega) (by omega)
  rw [T2 (.inr d2)] at this
  cases hq:f.st with
  | nil=>rw [hq] at this;simp at this
  | cons v st=>rw [hq] at this;exact ⟨_,rfl,by rw [ht];exact t0,fun _=>mi rfl (FI.next hc hlt hloc (by simp at this ⊢;omega))⟩
 rw [if_neg d2]
 by_cases d3:t.sign=59∨t.sign=91
 ·rw [if_pos d3]
  refine ⟨_,rfl,by rw [ht];exact t0,fun _=>mi rfl (FI.next hc hlt hloc ?_)⟩
  by_cases d4:t.sign=59
  ·unfold jE at hst;rw [hsg,if_pos d4] at hst;exact hst
  ·have:=hpl (by omega) (by omega) (by omega) (by omega) (by omega)
   rw [T8 (by simp [GG];omega)] at this
   simp at this ⊢;omega
 rw [if_neg d3]
 by_cases d4:t.sign=161
 ·rw [if_pos d4]
  exact ⟨_,rfl,⟨by show (0:Int)≤2;omega,by show (2:Int)≤7;omega,by show (2:Int)≠1;omega⟩,fun q=>by cases q⟩
 rw [if_neg d4]
 have:=hpl (by omega) (by omega) (by omega) (by omega) (by omega)
 by_cases d5:t.sign=960
 ·rw [if_pos d5]
  rw [T5 (by simp [GB];omega)] at this
  cases hq:f.st with
  | nil=>rw [hq] at this;simp at this
  | cons v st=>rw [hq] at this;exact ⟨_,rfl,by simp only;rw [ht];exact Lg ⟨by omega,by omega,by omega⟩ t0,fun _=>mi rfl (FI.next hc hlt hloc (by simp at this ⊢;omega))⟩
 rw [if_neg d5]
 by_cases d6:t.sign=33
 ·rw [if_pos d6]
  rw [T5 (by simp [GB];omega)] at this
  cases hq:f.st with
  | nil=>rw [hq] at this;simp at this
  | cons v st=>rw [hq] at this;exact ⟨_,rfl,by simp only;rw [ht];exact Lg (Sq _ _ _) t0,fun _=>mi rfl (FI.next hc hlt hloc (by simp at this ⊢;omega))⟩
 rw [if_neg d6]
 have hbin:FT t.sign=true:=by
  cases hB:FT t.sign with
  | true=>rfl
  | false =>
   rw [T0 (by omega) (by omega) d1 hB (by simp [GB];omega) (by omega) (by omega) (by simp [GG];omega) c4] at htk
   cases htk
 rw [T4 hbin] at this
 match hq:f.st,this with
 | [],this=>simp at this
 | [_],this=>simp at this
 | n::a::st,this=>exact ⟨_,rfl,by simp only;rw [ht];exact Lg (Sq _ _ _) t0,fun _=>mi rfl (FI.next hc hlt hloc (by simp at this ⊢;omega))⟩
theorem Tl (hP:RightP fs):∀ (n:Nat) (s:Mc),Qf s.trap→(s.trap=0→aY fs s)→∃ s' v n',DO fs (fs.map codeW) n s=some (s',v,n')∧n'≤n∧0≤s'.trap∧s'.trap≤7∧(s'.trap≠0→v=0)∧(s'.trap=1→n'=0)
 | n,s,ht,hm=>by
  by_cases c:s.trap≠0
  ·refine ⟨s,0,n,?_,Nat.le_refl _,ht.1,ht.2.1,fun _=>rfl,fun q=>absurd q ht.2.2⟩
   cases n<;>(unfold DO;rw [if_pos c])
  ·have c0:s.trap=0:=Decidable.not_not.mp c
   obtain ⟨f,r,h1,h2,h3⟩:=hm c0
   obtain ⟨⟨fr,ov⟩,e1,e2⟩:=RU r f h2 h3
   cases ov with
   | some v =>
    refine ⟨{ s with fr:=fr },v,n,?_,Nat.le_refl _,by show 0≤s.trap;omega,by show s.trap≤7;omega,fun q=>absurd c0 q,fun q=>by have q:s.trap=1:=q;omega⟩
    cases n<;>(unfold DO;rw [if_neg c,h1];simp only;rw [e1])
   | none =>
    obtain ⟨f',r',f1,f2,f3,f4⟩:=e2 rfl
    simp only at f1
    cases n with
    | zero =>
     refine ⟨{ s with fr:=fr,trap:=1 },0,0,?_,Nat.le_refl _,by show (0:Int)≤1;omega,by show (1:Int)≤7;omega,fun _=>rfl,fun _=>rfl⟩
     unfold DO;rw [if_neg c,h1];simp only;rw [e1]
    | succ n =>
     obtain ⟨s2,g1,g2,g3⟩:=XR hP (s:={ s with fr:=fr }) f1 f2 f3 f4 c0
     obtain ⟨s',v,n',k1,k2,k3⟩:=Tl hP n s2 g2 g3
     refine ⟨s',v,n',?_,by omega,k3⟩
     unfold DO;rw [if_neg c,h1];simp only;rw [e1];simp only;rw [g1];exact k1
end
end Go.Ev
set_option linter.unusedSectionVars false
namespace Go.Ev
open Go
theorem YE {sg:Int} {st st':List Int} {m m':Mem} {tr tr':Int} (h:Qt sg st m tr=some (st',m',tr')):st'.length≤st.length+1:=by
 unfold Qt at h
 repeat' split at h
 all_goals first
  | cases h;simp;done
  | cases h;simp;omega
  | cases h
theorem QK {t:Tok} {st st':List Int} {r r':Row} {tr tr':Int} (h:Ig t st r tr=some (st',r',tr')):st'.length≤st.length+1∧r'.asks.length≤r.asks.length+1:=by
 have hask:∀ nm n,(FY r nm n).1.asks.length≤r.asks.length+1:=fun nm n=>by
  unfold FY;split<;>simp
 unfold Ig at h
 repeat' split at h
 all_goals first
  | cases h;exact ⟨by first | omega | (simp only [List.length_cons];omega),by first | exact hask _ _ | omega⟩
  | cases h
theorem St:∀ (r:List Fm) (f:Fm) {fr:List Fm},EC f r=some (fr,none)→NT (f::r)→NT fr∧Ea fr≤Ea (f::r)∧fr.length≤(f::r).length∧∃ f' r',fr=f'::r'∧f'.at'<f'.c.l.length
 | r,f,fr,h,hg=>by
  unfold EC at h
  split at h
  ·rename_i hlt
   cases h;exact ⟨hg,Nat.le_refl _,Nat.le_refl _,f,r,rfl,hlt⟩
  ·split at h
   ·cases h
   ·rename_i v st hst
    split at h
    ·cases h
    ·rename_i g2 r2
     obtain ⟨h1,h2,h3,h4⟩:=St r2 { g2 with st:=v::g2.st } h (fun x hx k hk=>by
      rcases List.mem_cons.mp hx with rfl | hx
      ·exact hg g2 (by simp) k hk
      ·exact hg x (by simp [hx]) k hk)
     refine ⟨h1,?_,?_,h4⟩
     ·simp only [Ea,hst,List.length_cons] at h2 ⊢;omega
     ·simp only [List.length_cons] at h3 ⊢;omega
theorem Vv {fs:List Fn} {cs:List Code'} {s s':Mc} (hc:∀ c ∈ cs,∀ k ∈ c.l,EY k.sign=true) (hg:NT s.fr) (h:IZ fs cs s=some s') (hl:s.fr.length≤32) :
  NT s'.fr∧Ea s'.fr≤Ea s.fr+1∧s'.r.asks.length≤s.r.asks.length+1∧s'.fr.length≤32:=by
 cases hfr:s.fr with
 | nil=>unfold IZ at h;rw [hfr] at h;cases h
 | cons f r =>
  have one:∀ f':Fm,f'.c=f.c→f'.st.length≤f.st.length+1→NT (f'::r)∧Ea (f'::r)≤Ea (f::r)+1∧(f'::r).length≤32:=fun f' h1 h2=>by
   refine ⟨fun x hx k hk=>?_,by simp only [Ea];omega,by rw [hfr] at hl;exact hl⟩
   rw [hfr] at hg
   rcases List.mem_cons.mp hx with rfl | hx
   ·rw [h1] at hk;exact hg f (by simp) k hk
   ·exact hg x (by simp [hx]) k hk
  have fin:∀ f':Fm,s'.fr=f'::r→f'.c=f.c→f'.st.length≤f.st.length+1→s'.r.asks.length≤s.r.asks.length+1→NT s'.fr∧Ea s'.fr≤Ea (f::r)+1∧s'.r.asks.length≤s.r.asks.length+1∧s'.fr.length≤32:=fun f' h3 h1 h2 h4=>by
   rw [h3];obtain ⟨a,b,c⟩:=one f' h1 h2;exact ⟨a,b,h4,c⟩
  unfold IZ at h
  rw [hfr] at h
  simp only at h
  split at h
  ·cases h
  ·split at h
   ·cases h;exact fin _ rfl rfl (by simp) (by simp)
   ·split at h
    ·split at h
     ·cases h
     ·cases h;exact fin _ rfl rfl (by simp) (by simp)
    ·split at h
     ·split at h
      ·cases h
      ·rename_i hst
       cases h;exact fin _ rfl rfl (by simp [hst];omega) (by simp)
     ·split at h
      ·split at h
       ·cases h
       ·rename_i c hcc
        split at h
        ·cases h
        ·split at h
         ·cases h;exact fin _ rfl rfl (by simp;omega) (by simp)
         ·rename_i hd
          cases h
          obtain ⟨a1,a2,a3⟩:=one { f with at':=f.at'+1,st:=f.st.drop c.args.toNat } rfl (by simp;omega)
          refine ⟨fun x hx k hk=>?_,?_,by simp,?_⟩
          ·rcases List.mem_cons.mp hx with rfl | hx
           ·exact hc c (List.mem_of_getElem? hcc) k hk
           ·exact a1 x hx k hk
          ·show 0+Ea _≤_
           omega
          ·simp at hd ⊢;omega
      ·split at h
       ·split at h
        ·split at h
         ·cases h
         ·rename_i hst
          split at h
          ·cases h;exact fin _ rfl rfl (by simp [hst];omega) (by simp)
          ·split at h
           ·cases h
           ·split at h
            ·cases h
            ·cases h;exact fin _ rfl rfl (by simp [hst];omega) (by simp)
        ·split at h
         ·cases h
         ·split at h
          ·cases h
          ·cases h;exact fin _ rfl rfl (by simp) (by simp)
       ·split at h
        ·split at h
         ·cases h
         ·rename_i hm
          cases h;exact fin _ rfl rfl (YE hm) (by simp)
        ·split at h
         ·cases h
         ·rename_i hm
          cases h;exact fin _ rfl rfl (QK hm).1 (QK hm).2
section
variable {bar b:Nat} {g:H} {own:Nat→Nat} {C:Cx}
theorem XO.cell7 {tr val:Int} {ids:List Nat} (v:XO g b own C tr val ids):∃ cs,g.get C.X=some (.cells cs 0)∧cs[7]? = some (.int .i64 tr):=by
 obtain ⟨⟨fra,h,_⟩,_⟩:=v;exact ⟨_,h,rfl⟩
def ef (g:H) (b:Nat) (own:Nat→Nat) (C:Cx) (s:Mc) (v:Int):Prop:=(∃ ids,XO g b own C s.trap v ids)∧MemO g b own C.M s.m∧RowO g b own C.R s.r∧b≤g.n
theorem YZ (hb:bar≤b) (asked:Int) (rc:Nat) (hcs:∀ x ∈ C.rows,∀ k ∈ x.2.2.l,EY k.sign=true) (Q:Ex→Env→H→Prop):∀ (n:Nat) (g:H) (own:Nat→Nat) (s:Mc) (ids:List Nat) {s':Mc} {v:Int} {n':Nat},XV g b own C s 0 ids→NT s.fr→Ea s.fr+n<2999999→s.r.asks.length+n<1999999→s.fr.length≤32→(n:Int)≤1048576 →
  DO C.fs (C.rows.map (·.2.2)) n s=some (s',v,n') →
  (∀ e g' own',ef g' b own' C s' v→Kp own tA g g'→Agr g.n own own'→e.get 2=some (.ptr C.R 0)→e.get 4=some (.int .i64 n')→e.get 12=some (.ptr rc 0)→e.get 16=some (.int .i64 asked)→e.get 17=some (.ptr C.X 0)→Q (.exit 0) e g') →
  CW (call tb prim) bar [2,4,12,16,17] HF [(2,.ptr C.R 0),(4,.int .i64 n),(12,.ptr rc 0),(16,.int .i64 asked),(17,.ptr C.X 0)] g Q:=by
 intro n
 induction n with
 | zero =>
  intro g own s ids s' v n' xv hg hT hA hL hn hr hq
  refine Ad HF.eq_1 ?_
  obtain ⟨cs,c1,c7⟩:=xv.x.cell7
  by_cases ht:s.trap=0
  ·have hd:(s.trap == 0)=true:=by simpa using ht
   have xv0:=xv
   cases hfr:s.fr with
   | nil=>unfold DO at hr;rw [if_neg (by simpa using ht),hfr] at hr;cases hr
   | cons f r =>
    have hv:FrsV g b own (f::r) ids:=hfr ▸ xv.fr
    cases ids with
    | nil=>exact hv.elim
    | cons i l =>
     cases he:EC f r with
     | none=>unfold DO at hr;rw [if_neg (by simpa using ht),hfr] at hr;simp only [he] at hr;cases hr
     | some out =>
      obtain ⟨g1,own1,e1,k1,a1,hE⟩:=Ud (bar:=bar) hb xv.bn xv.x hv (by rw [hfr] at hT;omega) he
      have m1:=xv.m.mono k1 a1 (by unfold tE;omega)
      have r1:=xv.r.mono k1 a1 (by unfold tE;omega)
      have hbn1:b≤g1.n:=by have:=k1.1;have:=xv.bn;omega
      unfold DO at hr
      rw [if_neg (by simpa using ht),hfr] at hr
      simp only [he] at hr
      match out,hr,e1,hE with
      | (fr,some v2),hr,e1,hE =>
       simp only at hr
       cases hr
       simp only [Option.isNone] at e1
       simp [go_sem,AB,AG,c1,c7,hd,e1]
       refine hq _ g1 own1 ⟨⟨[],?_⟩,m1,r1,hbn1⟩ (k1.le fun k h=>Vz h) a1 rfl rfl rfl rfl rfl
       exact hE.2
      | (fr,none),hr,e1,hE =>
       simp only at hr
       simp only [Option.isNone] at e1
       obtain ⟨j,ids',x1,f1⟩:=hE
       cases hr
       have x1':=x1
       obtain ⟨⟨fra,q1,q2,q3⟩,qo,qb,ql,qs⟩:=x1'
       have hsp:AL (xC C fra s.trap 0) 7 [.int .i64 1]=xC C fra 1 0:=rfl
       have hle:7+1≤(xC C fra s.trap 0).length:=by simp [xC]
       obtain ⟨xc,hxc⟩:∃ xc,xc=xC C fra s.trap 0:=⟨_,rfl⟩
       rw [← hxc] at q1 hsp hle
       have hbx:bar≤C.X:=Nat.le_trans hb qb
       obtain ⟨g2,hg2⟩:∃ g2,g2=g1.set C.X (.cells (xC C fra 1 0) 0):=⟨_,rfl⟩
       have k2:Kp own1 (fun k=>k=1) g1 g2:=⟨by rw [hg2,AW];exact Nat.le_refl _,fun j hj hs=>by rw [hg2,AI (fun q=>hs (by rw [q];exact qo))]⟩
       simp [go_sem,AB,AG,c1,c7,hd,e1,q1,hsp,hle,hbx]
       rw [← hg2]
       refine hq _ g2 own1 ⟨⟨j::ids',⟨⟨fra,by rw [hg2,AU,if_pos rfl],q2.mono k2.1 (fun j hj=>by rw [hg2,AI (fun q=>by have:=q3 j hj;rw [q,qo] at this;omega)]),q3⟩,qo,qb,by rw [hg2,AW];exact ql,qs⟩⟩,m1.mono k2 Agr.refl (by omega),r1.mono k2 Agr.refl (by omega),by have:=k2.1;omega⟩ ((k1.le fun k h=>Vz h).trans a1 (k2.le fun k h=>by unfold tA;omega)) a1 rfl rfl rfl rfl rfl
  ·have hd:(s.trap == 0)=false:=by simpa using ht
   unfold DO at hr
   rw [if_pos ht] at hr
   cases hr
   simp [go_sem,AB,AG,c1,c7,hd]
   exact hq _ g own ⟨⟨ids,xv.x⟩,xv.m,xv.r,xv.bn⟩ Kp.refl Agr.refl rfl rfl rfl rfl rfl
 | succ n ih =>
  intro g own s ids s' v n' xv hg hT hA hL hn hr hq
  refine Ad HF.eq_1 ?_
  obtain ⟨cs,c1,c7⟩:=xv.x.cell7
  by_cases ht:s.trap=0
  ·have hd:(s.trap == 0)=true:=by simpa using ht
   have xv0:=xv
   cases hfr:s.fr with
   | nil=>unfold DO at hr;rw [if_neg (by simpa using ht),hfr] at hr;cases hr
   | cons f r =>
    have hv:FrsV g b own (f::r) ids:=hfr ▸ xv.fr
    cases ids with
    | nil=>exact hv.elim
    | cons i l =>
     cases he:EC f r with
     | none=>unfold DO at hr;rw [if_neg (by simpa using ht),hfr] at hr;simp only [he] at hr;cases hr
     | some out =>
      obtain ⟨g1,own1,e1,k1,a1,hE⟩:=Ud (bar:=bar) hb xv.bn xv.x hv (by rw [hfr] at hT;omega) he
      have m1:=xv.m.mono k1 a1 (by unfold tE;omega)
      have r1:=xv.r.mono k1 a1 (by unfold tE;omega)
      have hbn1:b≤g1.n:=by have:=k1.1;have:=xv.bn;omega
      unfold DO at hr
      rw [if_neg (by simpa using ht),hfr] at hr
      simp only [he] at hr
      match out,hr,e1,hE with
      | (fr,some v2),hr,e1,hE =>
       simp only at hr
       cases hr
       simp only [Option.isNone] at e1
       simp [go_sem,AB,AG,c1,c7,hd,e1]
       refine hq _ g1 own1 ⟨⟨[],?_⟩,m1,r1,hbn1⟩ (k1.le fun k h=>Vz h) a1 rfl rfl rfl rfl rfl
       exact hE.2
      | (fr,none),hr,e1,hE =>
       simp only at hr
       simp only [Option.isNone] at e1
       obtain ⟨j,ids',x1,f1⟩:=hE
       obtain ⟨hg1,ht1,hl1,f',r',rfl,hlt⟩:=St r f he (by rw [← hfr];exact hg)
       have cx1:=xv.cx.mono k1 a1 (by unfold tE;omega)
       have xv1:XV g1 b own1 C { s with fr:=f'::r' } 0 (j::ids'):=⟨x1,cx1,f1,m1,r1,hbn1⟩
       split at hr
       ·cases hr
       ·rename_i s2 hs2
        have hT':Ea (f'::r')+n<2999998:=by rw [hfr] at hT;omega
        obtain ⟨hg2,ht2,ha2,hl2⟩:=Vv (s:={ s with fr:=f'::r' }) (fun c hc k hk=>by
         obtain ⟨x,hx,rfl⟩:=List.mem_map.mp hc
         exact hcs x hx k hk) hg1 hs2 (by rw [hfr] at hL;simp only [List.length_cons] at hL hl1 ⊢;omega)
        have hil:ids'.length=r'.length:=f1.2.len
        obtain ⟨g2,own2,ids2,e2,xv2,k2,a2⟩:=aO (bar:=bar) xv1 rfl hb hs2 hg1 (by show Ea (f'::r')<_;omega) (by show s.r.asks.length<_;omega) (by rw [hil];rw [hfr] at hL;simp only [List.length_cons] at hL hl1;omega)
        obtain ⟨sid,all,full,tX,tS,tt,_⟩:=x1.top
        obtain ⟨xc,hxc⟩:∃ xc,xc=xC C (.sl sid 0 1 (ids'.length+1) full) s.trap 0:=⟨_,rfl⟩
        have h6:xc[6]? = some (.sl sid 0 1 (ids'.length+1) full):=by rw [hxc];rfl
        rw [← hxc] at tX
        have hwi:IntKind.i64.wrap (ids'.length:Int)=(ids'.length:Nat):=BN (by omega) (by rw [hil];rw [hfr] at hL;simp only [List.length_cons] at hL hl1;omega)
        have hltI:(ids'.length:Int)<(ids'.length:Int)+1:=by omega
        have hz:(((n:Int)+1) == 0)=false:=by simp;omega
        have hwn:IntKind.i64.wrap (n:Int)=(n:Nat):=BN (by omega) (by omega)
        simp [go_sem,AB,AG,c1,c7,hd,e1,hz,hwn,tX,h6,hwi,hltI,AJ,tS,tt,e2]
        have kk:Kp own tA g g2:=(k1.le fun k h=>Vz h).trans a1 k2
        have aa:Agr g.n own own2:=Agr.trans a1 a2 k1.1
        exact ih g2 own2 s2 ids2 xv2 hg2 (by have:Ea s2.fr≤Ea (f'::r')+1:=ht2;omega) (by have:s2.r.asks.length≤s.r.asks.length+1:=ha2;omega) hl2 (by omega) hr (fun e g' own' h1 h2 h3=>hq e g' own' h1 (kk.trans aa h2) (Agr.trans aa h3 kk.1))
  ·have hd:(s.trap == 0)=false:=by simpa using ht
   unfold DO at hr
   rw [if_pos ht] at hr
   cases hr
   simp [go_sem,AB,AG,c1,c7,hd]
   exact hq _ g own ⟨⟨ids,xv.x⟩,xv.m,xv.r,xv.bn⟩ Kp.refl Agr.refl rfl rfl rfl rfl rfl
end
end Go.Ev
