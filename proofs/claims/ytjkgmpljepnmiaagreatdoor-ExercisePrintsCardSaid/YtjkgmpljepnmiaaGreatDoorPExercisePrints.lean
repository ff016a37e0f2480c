/- The statement ExercisePrints holds: for every input that the form reads the call returns true and leaves its input as it was. No condition beyond the row's own. -/
import Derived.Test.YtjkgmpljepnmiaaGreatDoorPEpr8
import Derived.Test.YtjkgmpljepnmiaaGreatDoorCards
import Derived.Test.YtjkgmpljepnmiaaGreatDoorTie
set_option linter.unusedSimpArgs false
set_option linter.unusedVariables false
namespace Go.Proofs.YtjkgmpljepnmiaaGreatDoor.exercisePrints
open Go.ChangeShapes Go.WideShapes Go.ChangeAt Go.RowKit
theorem own:ownKnob Tryz.prog.godebug=none:=by kernel_rfl
theorem laidOut:laidOutB Tryz.prog=true:=by kernel_rfl
set_option maxRecDepth 100000 in
theorem contract (H:Type) (enc:TypeId×Value->H) (W:World) (base:Nat) (args:Array Value) (ds gs:List (DataW H)) (before:List MemPlace)
 (hval : ∀(j:Nat) t v,Tryz.f3.params[j]? = some t->args[j]? = some v->Value.okWide Tryz.prog W .any base t v)
 (hW:DataW.Whole enc Tryz.prog Tryz.f3.params.toList Rows.exercisePrintsSpec.vars false W args.toList ds gs before) (hL:laidMetH Tryz.prog Rows.exercisePrintsRow.laid W) (hSh:W.ShapedOpen Tryz.prog) :
 Calls Tryz.prog 3 args W fun e W'=> ∃v,e = .returned v/\Rows.exercisePrintsSpec.post enc Tryz.prog Tryz.f3 false true false false W args v W':=by
 have hW':=hW
 obtain ⟨p,q,hA0,hV,rfl,hfz,hnd⟩:=hW
 have hA:DataW.TrodAll enc Tryz.prog W 0 (fun _=>true) true Tryz.f3.params.toList args.toList ds p:=hA0
 rw [Tryz.params3] at hA hval
 obtain ⟨v0,vs0,d0,ds0,p0,q0,hargs,rfl,rfl,h0,r0⟩:=trodAll_cons hA
 obtain ⟨rfl,rfl,rfl⟩:=trodAll_nil r0
 obtain rfl:args = #[v0]:=by cases args;simp_all
 obtain ⟨rfl,rfl⟩:=trodVars_none hV
 clear hA0
 have hk0:=h0
 have hlt0 : ∀x∈p0,x.block<W.heap.size:=fun x hx=>by simpa using hW'.lt x (by simp [hx])
 obtain ⟨l0,a0,c0,rfl,zl0,zc0,hwf0,hs0⟩:=Bk.exs_of_trod enc W (hval 0 22 v0 rfl rfl) h0
 obtain ⟨hS,hE⟩:=Bk.tabs47_of_laid hL hSh
 refine (Bk.Prints_d l0 a0 c0 W zl0 zc0 hwf0 hs0 hS hE).mono fun e W' ⟨he,hx⟩=>?_
 subst he
 refine ⟨_,rfl,_,_,_,[],p0++[],[],hW',?_,?_,rfl,Below.frame hx _,fun h=>by cases h⟩
 . exact trodAll_cons_mk (shut_bool Tryz.underlying4 _) trodAll_mk0
 . exact trodAll_cons_mk (Below.trod laidOut (by kernel_rfl) (of_decide_eq_true (by kernel_rfl)) hk0 hx hlt0) (trodAll_mk0)
def setB (w:World) (g:Nat) (vs:Array Value):World:={ w with heap:=w.heap.modify g fun
      | .cells _ t frozen=>.cells vs t frozen
      | o=>o }
def strs (l:List (List UInt8)):Array Value:=(l.map Bk.str).toArray
def ints (k:IntKind) (l:List Int):Array Value:=(l.map (Value.int k)).toArray
noncomputable def lowB:Nat:=(World.holding Tryz.prog default ⟨#[],#[],[]⟩).heap.size
noncomputable def laidWorld (os:Os):World:=
 setB (setB (setB (setB (setB (setB (setB (setB (World.holding Tryz.prog os ⟨#[.cells #[Bk.str [118,97,108,117,101,32,111,117,116,32,111,102,32,114,97,110,103,101]] 302,.cells #[Bk.str [105,110,118,97,108,105,100,32,115,121,110,116,97,120]] 302],#[],[]⟩) 1 (strs Bk.symbols)) 2 (ints .u64 Lib.pow10Tab))
  5 (ints .u8 [0,1,28,2,29,14,24,3,30,22,20,15,25,17,4,8,31,27,13,23,21,19,16,7,26,12,18,6,11,5,10,9]))
  6 (ints .u8 [0,1,56,2,57,49,28,3,61,58,42,50,38,29,17,4,62,47,59,36,45,43,51,22,53,39,33,30,24,18,12,5,63,55,48,27,60,41,37,16,46,35,44,21,52,32,23,11,54,26,40,15,34,20,31,10,25,14,19,9,13,8,7,6]))
  4 #[.iface 300 (.pointer (some ⟨lowB,0,none⟩))]) 3 #[.iface 300 (.pointer (some ⟨lowB+1,0,none⟩))])
  8 (ints .u8 [128,191,160,191,128,159,144,191,128,143,0,0,0,0,0,0,0,0,0,0,0,0,0,0,0,0,0,0,0,0,0,0])) 7 (ints .u8 (Go.Pinned.utf8FirstZ.map Int.ofNat))
abbrev args0:Array Value:= #[.slice none 0 0]
set_option maxRecDepth 100000 in
theorem laid_met (os:Os):laidMet Tryz.prog Rows.exercisePrintsRow.laid ((laidWorld os).forCall (fun _ _=>0) ⟨#[],args0,[]⟩).memory:=
 laidMet_of_run' 8 (by kernel_rfl) (by kernel_rfl)
set_option maxRecDepth 100000 in
theorem reads (os:Os) {H:Type} (enc:TypeId×Value->H) : ∃places,DataW.whole enc Tryz.prog ((laidWorld os).forCall (fun _ _=>0) ⟨#[],args0,[]⟩).memory Tryz.f3.params.toList Rows.exercisePrintsSpec.vars false args0.toList 8=some ([.nil],[],places):=
 ⟨[],by kernel_rfl⟩
set_option maxRecDepth 100000 in
theorem lifted (os:Os) (started:os.Started) (H:Type) (enc:TypeId×Value->H) (F:Stop.Interp) :
 ReturnsInHanded {} Tryz.checked os 3 .any ((OpenSpec.ofChange Rows.exercisePrintsSpec).preRow enc Tryz.prog Tryz.f3 Rows.exercisePrintsRow.domain false Rows.exercisePrintsRow.laid) (((OpenSpec.ofChange Rows.exercisePrintsSpec).at F).post enc Tryz.prog Tryz.f3 false true false false):=by
 obtain ⟨places,hx⟩:=reads os enc
 refine returnsInHanded_of_row (C:=Tryz.checked) (s:=OpenSpec.ofChange Rows.exercisePrintsSpec) own started (by kernel_rfl) Tryz.func3
  (witness_row_at (enc:=enc) (C:=Tryz.checked) false (laidWorld os) args0 rfl (by kernel_rfl) (by kernel_rfl) (by kernel_rfl)
   (OpenSpec.preRow_of_cond 8 hx (by kernel_rfl) (fun k hk=>by cases hk) (by kernel_rfl) (laid_met os))) ?_
 intro W base args ds gs before hval hW _ _ _ hL hSh _
 exact contract H enc W base args ds gs before hval hW hL hSh
set_option maxRecDepth 100000 in
theorem jk0:laidOutB Tryz.pinned.checked.prog=true:=by kernel_rfl
set_option maxRecDepth 100000 in
theorem jk1:mapsRowed Tryz.pinned.checked.prog=true:=by kernel_rfl
set_option maxRecDepth 100000 in
theorem jk2:(Rows.exercisePrintsRow.inPlace==Tryz.pinned.checked.prog.inPlace 3)=true:=by kernel_rfl
set_option maxRecDepth 100000 in
theorem jk3:(Rows.exercisePrintsRow.unfollowed==Tryz.pinned.checked.prog.unfollowed 3)=true:=by kernel_rfl
set_option maxRecDepth 100000 in
theorem jk4:(Rows.exercisePrintsRow.recurses==Tryz.pinned.checked.prog.recurses 3)=true:=by kernel_rfl
set_option maxRecDepth 100000 in
theorem jk5:(Rows.exercisePrintsRow.named==Tryz.pinned.checked.prog.varsNamed 3)=true:=by kernel_rfl
set_option maxRecDepth 100000 in
theorem jk6:(Rows.exercisePrintsRow.plainKeys==Tryz.pinned.checked.prog.plainKeys)=true:=by kernel_rfl
set_option maxRecDepth 100000 in
theorem jk7:Tryz.pinned.checked.prog.stopsHeard=true:=by kernel_rfl
set_option maxRecDepth 100000 in
theorem jk8:Tryz.pinned.checked.prog.mayEnter=true:=by kernel_rfl
set_option maxRecDepth 100000 in
theorem jk9:(Rows.exercisePrintsRow.lifted==Tryz.pinned.checked.prog.liftsFinal)=true:=by kernel_rfl
set_option maxRecDepth 100000 in
theorem jk10:(Tryz.pinned.checked.prog.make==some Rows.exercisePrintsRow.make)=true:=by kernel_rfl
set_option maxRecDepth 100000 in
theorem closed:joinedFacts Tryz.pinned.checked.prog 3 Tryz.f3 (OpenSpec.ofChange Rows.exercisePrintsSpec).bare Rows.exercisePrintsRow=true:=by
 unfold joinedFacts
 rewrite [jk0,jk1,jk2,jk3,jk4,jk5,jk6,jk7,jk8,jk9,jk10]
 kernel_rfl
theorem said:Rows.ExercisePrintsSaid:=
 OpenClaim.holds_of_cond 3 Tryz.f3 rfl rfl rfl rfl rfl rfl rfl ⟨rfl,rfl,rfl,rfl,rfl⟩ rfl rfl rfl rfl rfl (by kernel_rfl) Tryz.func3 closed
  (of_decide_eq_true (by kernel_rfl)) (by unfold Func.isWrapper;first|(rw [if_pos (by decide +kernel)];kernel_rfl)|(rw [if_neg (by decide +kernel)];exact ⟨rfl,rfl⟩))
  (fun os started H enc _ F=>by rw [OpenClaim.pre_eq_preRow];exact lifted os started H enc F)
theorem plain (f:FuncId) (fn:Func) (hf:Tryz.pinned.checked.prog.funcNamed "backstep/backsteplaw47.ExercisePrints" = some f) (hfn:Tryz.pinned.checked.prog.funcs[f]? = some fn) :
 true=Tryz.pinned.checked.prog.looks [] /\ ∀(j:Nat) t,fn.params[j]? = some t->Tryz.pinned.checked.prog.wantsStandIn t=false:=by
 obtain rfl:f=3:=Option.some.inj ((show Tryz.prog.funcNamed "backstep/backsteplaw47.ExercisePrints" = some 3 by kernel_rfl).symm.trans hf) |>.symm
 obtain rfl:fn=Tryz.f3:=(Option.some.inj (Tryz.func3.symm.trans hfn)).symm
 refine ⟨by kernel_rfl,fun j t ht=>?_⟩
 rw [Tryz.params3] at ht
 obtain rfl:t=22:=by simpa using Array.mem_of_getElem? ht
 exact (show Tryz.prog.wantsStandIn 22=false by kernel_rfl)
theorem card:Rows.ExercisePrintsCardSaid:=
 Claim7.holds_tied_plain_at .later [] _ _ _ _ said (fun _ h=>by cases h) (by kernel_rfl) (fun _ h=>by cases h) exercisePrints_row_tie rfl ⟨rfl,rfl⟩ (by kernel_rfl) rfl plain (by kernel_rfl)
end Go.Proofs.YtjkgmpljepnmiaaGreatDoor.exercisePrints
