/- The statement GradebookAll holds: for every input that the form reads the call returns true and leaves its input as it was. No condition beyond the row's own. -/
import Derived.Test.YteiiipaobncfgaaGreatPGam6
set_option linter.unusedSimpArgs false
set_option linter.unusedVariables false
namespace Go.Proofs.YteiiipaobncfgaaGreat.gradebookAll
open Go.ChangeShapes Go.WideShapes Go.ChangeAt Go.RowKit
theorem own:ownKnob Tryz.prog.godebug=none:=by kernel_rfl
theorem laidOut:laidOutB Tryz.prog=true:=by kernel_rfl
set_option maxRecDepth 100000 in
theorem contract (H:Type) (enc:TypeId×Value->H) (W:World) (base:Nat) (args:Array Value) (ds gs:List (DataW H)) (before:List MemPlace)
 (hval : ∀(j:Nat) t v,Tryz.f10.params[j]? = some t->args[j]? = some v->Value.okWide Tryz.prog W .any base t v)
 (hW:DataW.Whole enc Tryz.prog Tryz.f10.params.toList Rows.gradebookAllSpec.vars false W args.toList ds gs before) (hL:laidMetH Tryz.prog Rows.gradebookAllRow.laid W) :
 Calls Tryz.prog 10 args W fun e W'=> ∃v,e = .returned v/\Rows.gradebookAllSpec.post enc Tryz.prog Tryz.f10 false true false false W args v W':=by
 have hW':=hW
 obtain ⟨p,q,hA0,hV,rfl,hfz,hnd⟩:=hW
 have hA:DataW.TrodAll enc Tryz.prog W 0 (fun _=>true) true Tryz.f10.params.toList args.toList ds p:=hA0
 rw [Tryz.params10] at hA hval
 obtain ⟨v0,vs0,d0,ds0,p0,q0,hargs,rfl,rfl,h0,r0⟩:=trodAll_cons hA
 obtain ⟨rfl,rfl,rfl⟩:=trodAll_nil r0
 obtain rfl:args = #[v0]:=by cases args;simp_all
 obtain ⟨rfl,rfl⟩:=trodVars_none hV
 clear hA0
 have hk0:=h0
 have hlt0 : ∀x∈p0,x.block<W.heap.size:=fun x hx=>by simpa using hW'.lt x (by simp [hx])
 obtain ⟨l0,a0,c0,rfl,zl0,zc0,hwf0,hs0⟩:=Bk.exs_of_trodZ enc W (hval 0 23 v0 rfl rfl) h0
 refine (Bk.All_d l0 a0 c0 W zl0 zc0 hwf0 hs0).mono fun e W' ⟨he,hx⟩=>?_
 subst he
 refine ⟨_,rfl,_,_,_,[],p0++[],[],hW',?_,?_,rfl,Below.frame hx _,fun h=>by cases h⟩
 . exact trodAll_cons_mk (shut_bool Tryz.underlying4 _) trodAll_mk0
 . exact trodAll_cons_mk (Below.trod laidOut (by kernel_rfl) (of_decide_eq_true (by kernel_rfl)) hk0 hx hlt0) (trodAll_mk0)
noncomputable def laidWorld (os:Os):World:=
 World.holding Tryz.prog os ⟨#[],#[],[]⟩
abbrev args0:Array Value:= #[.slice none 0 0]
set_option maxRecDepth 100000 in
theorem laid_met (os:Os):laidMet Tryz.prog Rows.gradebookAllRow.laid ((laidWorld os).forCall (fun _ _=>0) ⟨#[],args0,[]⟩).memory:=
 laidMet_of_run' 8 (by kernel_rfl) (by kernel_rfl)
set_option maxRecDepth 100000 in
theorem reads (os:Os) {H:Type} (enc:TypeId×Value->H) : ∃places,DataW.whole enc Tryz.prog ((laidWorld os).forCall (fun _ _=>0) ⟨#[],args0,[]⟩).memory Tryz.f10.params.toList Rows.gradebookAllSpec.vars false args0.toList 8=some ([.nil],[],places):=
 ⟨[],by kernel_rfl⟩
set_option maxRecDepth 100000 in
theorem lifted (os:Os) (started:os.Started) (H:Type) (enc:TypeId×Value->H) (F:Stop.Interp) :
 ReturnsInHanded {} Tryz.checked os 10 .any ((OpenSpec.ofChange Rows.gradebookAllSpec).preRow enc Tryz.prog Tryz.f10 Rows.gradebookAllRow.domain false Rows.gradebookAllRow.laid) (((OpenSpec.ofChange Rows.gradebookAllSpec).at F).post enc Tryz.prog Tryz.f10 false true false false):=by
 obtain ⟨places,hx⟩:=reads os enc
 refine returnsInHanded_of_row (C:=Tryz.checked) (s:=OpenSpec.ofChange Rows.gradebookAllSpec) own started (by kernel_rfl) Tryz.func10
  (witness_row_at (enc:=enc) (C:=Tryz.checked) false (laidWorld os) args0 rfl (by kernel_rfl) (by kernel_rfl) (by kernel_rfl)
   (OpenSpec.preRow_of_cond 8 hx (by kernel_rfl) (fun k hk=>by cases hk) (by kernel_rfl) (laid_met os))) ?_
 intro W base args ds gs before hval hW _ _ _ hL _ _
 exact contract H enc W base args ds gs before hval hW hL
set_option maxRecDepth 100000 in
theorem jk0:laidOutB Tryz.pinned.checked.prog=true:=by kernel_rfl
set_option maxRecDepth 100000 in
theorem jk1:mapsRowed Tryz.pinned.checked.prog=true:=by kernel_rfl
set_option maxRecDepth 100000 in
theorem jk2:(Rows.gradebookAllRow.inPlace==Tryz.pinned.checked.prog.inPlace 10)=true:=by kernel_rfl
set_option maxRecDepth 100000 in
theorem jk3:(Rows.gradebookAllRow.unfollowed==Tryz.pinned.checked.prog.unfollowed 10)=true:=by kernel_rfl
set_option maxRecDepth 100000 in
theorem jk4:(Rows.gradebookAllRow.recurses==Tryz.pinned.checked.prog.recurses 10)=true:=by kernel_rfl
set_option maxRecDepth 100000 in
theorem jk5:(Rows.gradebookAllRow.named==Tryz.pinned.checked.prog.varsNamed 10)=true:=by kernel_rfl
set_option maxRecDepth 100000 in
theorem jk6:(Rows.gradebookAllRow.plainKeys==Tryz.pinned.checked.prog.plainKeys)=true:=by kernel_rfl
set_option maxRecDepth 100000 in
theorem jk7:Tryz.pinned.checked.prog.stopsHeard=true:=by kernel_rfl
set_option maxRecDepth 100000 in
theorem jk8:Tryz.pinned.checked.prog.mayEnter=true:=by kernel_rfl
set_option maxRecDepth 100000 in
theorem jk9:(Rows.gradebookAllRow.lifted==Tryz.pinned.checked.prog.liftsFinal)=true:=by kernel_rfl
set_option maxRecDepth 100000 in
theorem jk10:(Tryz.pinned.checked.prog.make==some Rows.gradebookAllRow.make)=true:=by kernel_rfl
set_option maxRecDepth 100000 in
theorem closed:joinedFacts Tryz.pinned.checked.prog 10 Tryz.f10 (OpenSpec.ofChange Rows.gradebookAllSpec).bare Rows.gradebookAllRow=true:=by
 unfold joinedFacts
 rewrite [jk0,jk1,jk2,jk3,jk4,jk5,jk6,jk7,jk8,jk9,jk10]
 kernel_rfl
theorem said:Rows.GradebookAllSaid:=
 OpenClaim.holds_of_cond 10 Tryz.f10 rfl rfl rfl rfl rfl rfl rfl ⟨rfl,rfl,rfl,rfl,rfl⟩ rfl rfl rfl rfl rfl (by kernel_rfl) Tryz.func10 closed
  (of_decide_eq_true (by kernel_rfl)) (by unfold Func.isWrapper;first|(rw [if_pos (by decide +kernel)];kernel_rfl)|(rw [if_neg (by decide +kernel)];exact ⟨rfl,rfl⟩))
  (fun os started H enc _ F=>by rw [OpenClaim.pre_eq_preRow];exact lifted os started H enc F)
theorem card:Rows.GradebookAllSaid:=said
end Go.Proofs.YteiiipaobncfgaaGreat.gradebookAll
