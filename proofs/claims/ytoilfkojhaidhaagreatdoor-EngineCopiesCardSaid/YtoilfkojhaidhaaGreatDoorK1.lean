/- Part 8 of the proof that engramlaw14.EngineCopies returns true for every argument; nothing is assumed. -/
import Derived.Test.YtoilfkojhaidhaaGreatDoorCards
import Derived.Test.YtoilfkojhaidhaaGreatDoorTie
import Derived.WalkKit
import Derived.ProofKit
import Derived.OpenShut
import Derived.Deep.DeepHandedRow
import Derived.Lib.LaidTab
import Derived.LaidMore
import Derived.Test.YtoilfkojhaidhaaGreatDoorA7
set_option linter.unusedSimpArgs false
set_option linter.unusedVariables false
set_option linter.all false
namespace Go.Proofs.YtoilfkojhaidhaaGreatDoor.engineCopies
open Go.ChangeShapes Go.WideShapes Go.ChangeAt Go.RowKit Go.Ev
theorem own:ownKnob Tryz.prog.godebug=none:=by kernel_rfl
theorem kids:Kids Tryz.prog (·<Tryz.prog.types.size):=kids_rows (by kernel_rfl) (by kernel_rfl)
theorem full:∀ t e,t<Tryz.prog.types.size→Tryz.prog.underlying t=some (.slice e)→0<Tryz.prog.cellsOf e:=slices_full_of _ (by kernel_rfl)
theorem laid3:Rows.engineCopiesRow.laid[3]? = some ("strconv.ErrRange",DataW.iface "*errors.errorString" (.ptr (.agg [.lit (.string [118,97,108,117,101,32,111,117,116,32,111,102,32,114,97,110,103,101])]))):=by kernel_rfl
theorem laid4:Rows.engineCopiesRow.laid[4]? = some ("strconv.ErrSyntax",DataW.iface "*errors.errorString" (.ptr (.agg [.lit (.string [105,110,118,97,108,105,100,32,115,121,110,116,97,120])]))):=by kernel_rfl
set_option maxRecDepth 100000 in
theorem contract (H:Type) (enc:TypeId × Value→H) (W:World) (base:Nat) (args:Array Value) (ds gs:List (DataW H)) (before:List MemPlace)
  (hval:∀ (j:Nat) t v,Tryz.f7.params[j]? = some t→args[j]? = some v→Value.okWide Tryz.prog W .any base t v)
  (hW:DataW.Whole enc Tryz.prog Tryz.f7.params.toList Rows.engineCopiesSpec.vars false W args.toList ds gs before) (hL:laidMetH Tryz.prog Rows.engineCopiesRow.laid W) :
  Calls Tryz.prog 7 args W fun e W'=>∃ v,e=.returned v∧Rows.engineCopiesSpec.post enc Tryz.prog Tryz.f7 false true false false W args v W':=by
 have hG:GR Gl (CX W):=dI hL (by kernel_rfl) ⟨_,List.mem_of_getElem? laid3⟩ ⟨_,List.mem_of_getElem? laid4⟩
 refine TL (n:=6) (fn:=Tryz.f7) (f:=7) (s:=Rows.engineCopiesSpec) cX hG kids full (fun t ht=>by
  have hall:Tryz.f7.params.toList.all (fun t=>decide (t<Tryz.prog.types.size)&&Fw Tryz.prog 6 t)=true:=by kernel_rfl
  have:=List.all_eq_true.1 hall t ht
  simpa using this) (tt:=4) (by kernel_rfl) (by kernel_rfl) rfl (fun ds hds=>?_) hval hW (fun avs h1 h2=>?_)
 ·match ds,hds with
  | [d1,d2],_=>rfl
 ·match avs,h1,h2 with
  | [a1,a2],_,h2 =>
   obtain ⟨L1,q1⟩:=PE (c:=i64c) (k:=1) (e:=3) (n:=5) (fun _=>rfl) (by kernel_rfl) (by kernel_rfl) (fun xs h=>by obtain ⟨x,rfl⟩:=Lu (n:=4) (k:=.i64) (by kernel_rfl) h;exact ⟨x,rfl⟩) (h2 0 22 a1 rfl rfl)
   obtain ⟨L2,q2⟩:=PE (c:=CallT.c) (k:=3) (e:=25) (n:=5) CallT.len (by kernel_rfl) (by kernel_rfl) (fun xs h=>⟨⟨xs,Wb (n:=2) (by kernel_rfl) h⟩,rfl⟩) (h2 1 53 a2 rfl rfl)
   exact ⟨_,Pb q1 q2⟩
noncomputable def laidWorld (os:Os):World:=World.doorLaid Tryz.prog 4000 os
theorem laid_met (os:Os):laidMet Tryz.prog Rows.engineCopiesRow.laid ((laidWorld os).forCall (fun _ _=>0) ⟨#[],#[.slice none 0 0,.slice none 0 0],[]⟩).memory :=
 laidMet_of_run' 8 (by kernel_rfl) (by kernel_rfl)
theorem reads (os:Os) {H:Type} (enc:TypeId × Value→H):∃ places,DataW.whole enc Tryz.prog ((laidWorld os).forCall (fun _ _=>0) ⟨#[],#[.slice none 0 0,.slice none 0 0],[]⟩).memory Tryz.f7.params.toList Rows.engineCopiesSpec.vars false (#[.slice none 0 0,.slice none 0 0]:Array Value).toList 8=some ([.nil,.nil],[],places) :=
 ⟨[],by kernel_rfl⟩
set_option maxRecDepth 100000 in
theorem lifted (os:Os) (started:os.Started) (H:Type) (enc:TypeId × Value→H) (F:Stop.Interp) :
  ReturnsInHanded {} Tryz.checked os 7 .any ((OpenSpec.ofChange Rows.engineCopiesSpec).preRow enc Tryz.prog Tryz.f7 Rows.engineCopiesRow.domain false Rows.engineCopiesRow.laid) (((OpenSpec.ofChange Rows.engineCopiesSpec).at F).post enc Tryz.prog Tryz.f7 false true false false):=by
 obtain ⟨places,hx⟩:=reads os enc
 refine returnsInHanded_of_row (C:=Tryz.checked) (s:=OpenSpec.ofChange Rows.engineCopiesSpec) own started (by kernel_rfl) Tryz.func7
  (witness_row_at (enc:=enc) (C:=Tryz.checked) false (laidWorld os) #[.slice none 0 0,.slice none 0 0] rfl (by kernel_rfl) (by kernel_rfl) (by kernel_rfl)
   (OpenSpec.preRow_of_cond 8 hx (by kernel_rfl) (fun k hk=>by cases hk) (by kernel_rfl) (laid_met os))) ?_
 intro W base args ds gs before hval hW _ _ _ hL _ _
 exact contract H enc W base args ds gs before hval hW hL
theorem said:Rows.EngineCopiesSaid :=
 OpenClaim.holds_of_cond 7 Tryz.f7 rfl rfl rfl rfl rfl rfl rfl ⟨rfl,rfl,rfl,rfl,rfl⟩ rfl rfl rfl rfl rfl (by kernel_rfl) Tryz.func7 (by kernel_rfl)
  (of_decide_eq_true (by kernel_rfl)) (by unfold Func.isWrapper;first | (rw [if_pos (by decide +kernel)];kernel_rfl) | (rw [if_neg (by decide +kernel)];exact ⟨rfl,rfl⟩))
  (fun os started H enc _ F=>by rw [OpenClaim.pre_eq_preRow];exact lifted os started H enc F)
theorem plain (f:FuncId) (fn:Func) (hf:Tryz.pinned.checked.prog.funcNamed "engram/engramlaw14.EngineCopies" = some f) (hfn:Tryz.pinned.checked.prog.funcs[f]? = some fn) :
  true=Tryz.pinned.checked.prog.looks []∧∀ (j:Nat) t,fn.params[j]? = some t→Tryz.pinned.checked.prog.wantsStandIn t=false:=by
 obtain rfl:f=7:=Option.some.inj ((show Tryz.prog.funcNamed "engram/engramlaw14.EngineCopies" = some 7 by kernel_rfl).symm.trans hf) |>.symm
 obtain rfl:fn=Tryz.f7:=(Option.some.inj (Tryz.func7.symm.trans hfn)).symm
 refine ⟨by kernel_rfl,fun j t ht=>?_⟩
 have hall:Tryz.f7.params.toList.all (fun t=>!Tryz.prog.wantsStandIn t)=true:=by kernel_rfl
 have:=List.all_eq_true.1 hall t (by rw [List.mem_iff_getElem?];exact ⟨j,by simpa using ht⟩)
 have h2:Tryz.prog.wantsStandIn t=false:=by simpa using this
 exact h2
theorem card:Rows.EngineCopiesCardSaid :=
 Claim7.holds_tied_plain_at .later [] _ _ _ _ said (fun _ h=>by cases h) (by kernel_rfl) (fun _ h=>by cases h) engineCopies_row_tie rfl ⟨rfl,rfl⟩ (by kernel_rfl) rfl plain (by kernel_rfl)
#print axioms card
end Go.Proofs.YtoilfkojhaidhaaGreatDoor.engineCopies
