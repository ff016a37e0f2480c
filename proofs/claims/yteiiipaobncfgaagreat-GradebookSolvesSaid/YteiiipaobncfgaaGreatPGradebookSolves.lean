/- The statement GradebookSolves holds: for every input that the form reads the call returns true and leaves its input as it was. No condition beyond the row's own. -/
import Derived.Test.YteiiipaobncfgaaGreatPGsm7
set_option linter.unusedSimpArgs false
set_option linter.unusedVariables false
namespace Go.Proofs.YteiiipaobncfgaaGreat.gradebookSolves
open Go.ChangeShapes Go.WideShapes Go.ChangeAt Go.RowKit
theorem own:ownKnob Tryz.prog.godebug=none:=by kernel_rfl
theorem laidOut:laidOutB Tryz.prog=true:=by kernel_rfl
set_option maxRecDepth 100000 in
theorem contract (H:Type) (enc:TypeId×Value->H) (W:World) (base:Nat) (args:Array Value) (ds gs:List (DataW H)) (before:List MemPlace)
 (hval : ∀(j:Nat) t v,Tryz.f9.params[j]? = some t->args[j]? = some v->Value.okWide Tryz.prog W .any base t v)
 (hW:DataW.Whole enc Tryz.prog Tryz.f9.params.toList Rows.gradebookSolvesSpec.vars false W args.toList ds gs before) (hL:laidMetH Tryz.prog Rows.gradebookSolvesRow.laid W) :
 Calls Tryz.prog 9 args W fun e W'=> ∃v,e = .returned v/\Rows.gradebookSolvesSpec.post enc Tryz.prog Tryz.f9 false true false false W args v W':=by
 have hW':=hW
 obtain ⟨p,q,hA0,hV,rfl,hfz,hnd⟩:=hW
 have hA:DataW.TrodAll enc Tryz.prog W 0 (fun _=>true) true Tryz.f9.params.toList args.toList ds p:=hA0
 rw [Tryz.params9] at hA hval
 obtain ⟨v0,vs0,d0,ds0,p0,q0,hargs,rfl,rfl,h0,r0⟩:=trodAll_cons hA
 obtain ⟨v1,vs1,d1,ds1,p1,q1,rfl,rfl,rfl,h1,r1⟩:=trodAll_cons r0
 obtain ⟨v2,vs2,d2,ds2,p2,q2,rfl,rfl,rfl,h2,r2⟩:=trodAll_cons r1
 obtain ⟨rfl,rfl,rfl⟩:=trodAll_nil r2
 obtain rfl:args = #[v0,v1,v2]:=by cases args;simp_all
 obtain ⟨rfl,rfl⟩:=trodVars_none hV
 clear hA0
 have hk0:=h0
 have hk1:=h1
 have hk2:=h2
 have hlt0 : ∀x∈p0,x.block<W.heap.size:=fun x hx=>by simpa using hW'.lt x (by simp [hx])
 have hlt1 : ∀x∈p1,x.block<W.heap.size:=fun x hx=>by simpa using hW'.lt x (by simp [hx])
 have hlt2 : ∀x∈p2,x.block<W.heap.size:=fun x hx=>by simpa using hW'.lt x (by simp [hx])
 obtain ⟨l0,a0,c0,rfl,zl0,zc0,hwf0,hs0⟩:=Bk.exs_of_trodZ enc W (hval 0 23 v0 rfl rfl) h0
 obtain ⟨n1,rfl,-,-,wn1⟩:=open_int Tryz.underlying5 (hval 1 5 v1 rfl rfl) h1
 have zn1:0<=n1/\n1<=255:=by simpa [Lit.wf,IntKind.min,IntKind.max,IntKind.signed,IntKind.bits] using wn1
 obtain ⟨cs2,rfl,-⟩ : ∃cs,v2 = .agg cs/\True:=by
  have:=hval 2 31 v2 rfl rfl
  unfold Value.okWide at this
  rw [Tryz.underlying31] at this
  obtain ⟨cs,h1,-⟩:=this
  exact ⟨cs,h1,trivial⟩
 obtain ⟨fuel2,hf2⟩:=h2
 obtain ⟨g2,va2,vc2,pa2,pc2,ma2,mc2,hcl2,hwf2,hsits2,hroom2,hcap2⟩:=Bk.pg_of_trodR enc W (fun _=>true) hf2
 obtain rfl:cs2=(g2.cells va2 vc2 pa2 pc2 ma2 mc2).toArray:=by
  apply Array.ext'
  exact hcl2
 refine (Bk.Solves_d l0 a0 c0 n1 g2 va2 vc2 pa2 pc2 ma2 mc2 W zl0 zc0 hwf0 hs0 zn1.1 zn1.2 hwf2 hsits2 hroom2 hcap2).mono fun e W' ⟨he,hx⟩=>?_
 subst he
 refine ⟨_,rfl,_,_,_,[],p0++(p1++(p2++[])),[],hW',?_,?_,rfl,Below.frame hx _,fun h=>by cases h⟩
 . exact trodAll_cons_mk (shut_bool Tryz.underlying4 _) trodAll_mk0
 . exact trodAll_cons_mk (Below.trod laidOut (by kernel_rfl) (of_decide_eq_true (by kernel_rfl)) hk0 hx hlt0) (trodAll_cons_mk (Below.trod laidOut (by kernel_rfl) (of_decide_eq_true (by kernel_rfl)) hk1 hx hlt1) (trodAll_cons_mk (Below.trod laidOut (by kernel_rfl) (of_decide_eq_true (by kernel_rfl)) hk2 hx hlt2) (trodAll_mk0)))
noncomputable def laidWorld (os:Os):World:=
 World.holding Tryz.prog os ⟨#[],#[],[]⟩
abbrev args0:Array Value:= #[.slice none 0 0,.int .u8 0,.agg #[.slice none 0 0,.slice none 0 0,.int .u8 0,.int .i64 0,.string ⟨#[]⟩,.slice none 0 0]]
set_option maxRecDepth 100000 in
theorem laid_met (os:Os):laidMet Tryz.prog Rows.gradebookSolvesRow.laid ((laidWorld os).forCall (fun _ _=>0) ⟨#[],args0,[]⟩).memory:=
 laidMet_of_run' 8 (by kernel_rfl) (by kernel_rfl)
set_option maxRecDepth 100000 in
theorem reads (os:Os) {H:Type} (enc:TypeId×Value->H) : ∃places,DataW.whole enc Tryz.prog ((laidWorld os).forCall (fun _ _=>0) ⟨#[],args0,[]⟩).memory Tryz.f9.params.toList Rows.gradebookSolvesSpec.vars false args0.toList 8=some ([.nil,.lit (.int .u8 0),.agg [.nil,.nil,.agg [.lit (.int .u8 0),.lit (.int .i64 0),.lit (.string []),.nil]]],[],places):=
 ⟨[],by kernel_rfl⟩
set_option maxRecDepth 100000 in
theorem lifted (os:Os) (started:os.Started) (H:Type) (enc:TypeId×Value->H) (F:Stop.Interp) :
 ReturnsInHanded {} Tryz.checked os 9 .any ((OpenSpec.ofChange Rows.gradebookSolvesSpec).preRow enc Tryz.prog Tryz.f9 Rows.gradebookSolvesRow.domain false Rows.gradebookSolvesRow.laid) (((OpenSpec.ofChange Rows.gradebookSolvesSpec).at F).post enc Tryz.prog Tryz.f9 false true false false):=by
 obtain ⟨places,hx⟩:=reads os enc
 refine returnsInHanded_of_row (C:=Tryz.checked) (s:=OpenSpec.ofChange Rows.gradebookSolvesSpec) own started (by kernel_rfl) Tryz.func9
  (witness_row_at (enc:=enc) (C:=Tryz.checked) false (laidWorld os) args0 rfl (by kernel_rfl) (by kernel_rfl) (by kernel_rfl)
   (OpenSpec.preRow_of_cond 8 hx (by kernel_rfl) (fun k hk=>by cases hk) (by kernel_rfl) (laid_met os))) ?_
 intro W base args ds gs before hval hW _ _ _ hL _ _
 exact contract H enc W base args ds gs before hval hW hL
set_option maxRecDepth 100000 in
theorem jk0:laidOutB Tryz.pinned.checked.prog=true:=by kernel_rfl
set_option maxRecDepth 100000 in
theorem jk1:mapsRowed Tryz.pinned.checked.prog=true:=by kernel_rfl
set_option maxRecDepth 100000 in
theorem jk2:(Rows.gradebookSolvesRow.inPlace==Tryz.pinned.checked.prog.inPlace 9)=true:=by kernel_rfl
set_option maxRecDepth 100000 in
theorem jk3:(Rows.gradebookSolvesRow.unfollowed==Tryz.pinned.checked.prog.unfollowed 9)=true:=by kernel_rfl
set_option maxRecDepth 100000 in
theorem jk4:(Rows.gradebookSolvesRow.recurses==Tryz.pinned.checked.prog.recurses 9)=true:=by kernel_rfl
set_option maxRecDepth 100000 in
theorem jk5:(Rows.gradebookSolvesRow.named==Tryz.pinned.checked.prog.varsNamed 9)=true:=by kernel_rfl
set_option maxRecDepth 100000 in
theorem jk6:(Rows.gradebookSolvesRow.plainKeys==Tryz.pinned.checked.prog.plainKeys)=true:=by kernel_rfl
set_option maxRecDepth 100000 in
theorem jk7:Tryz.pinned.checked.prog.stopsHeard=true:=by kernel_rfl
set_option maxRecDepth 100000 in
theorem jk8:Tryz.pinned.checked.prog.mayEnter=true:=by kernel_rfl
set_option maxRecDepth 100000 in
theorem jk9:(Rows.gradebookSolvesRow.lifted==Tryz.pinned.checked.prog.liftsFinal)=true:=by kernel_rfl
set_option maxRecDepth 100000 in
theorem jk10:(Tryz.pinned.checked.prog.make==some Rows.gradebookSolvesRow.make)=true:=by kernel_rfl
set_option maxRecDepth 100000 in
theorem closed:joinedFacts Tryz.pinned.checked.prog 9 Tryz.f9 (OpenSpec.ofChange Rows.gradebookSolvesSpec).bare Rows.gradebookSolvesRow=true:=by
 unfold joinedFacts
 rewrite [jk0,jk1,jk2,jk3,jk4,jk5,jk6,jk7,jk8,jk9,jk10]
 kernel_rfl
theorem said:Rows.GradebookSolvesSaid:=
 OpenClaim.holds_of_cond 9 Tryz.f9 rfl rfl rfl rfl rfl rfl rfl ⟨rfl,rfl,rfl,rfl,rfl⟩ rfl rfl rfl rfl rfl (by kernel_rfl) Tryz.func9 closed
  (of_decide_eq_true (by kernel_rfl)) (by unfold Func.isWrapper;first|(rw [if_pos (by decide +kernel)];kernel_rfl)|(rw [if_neg (by decide +kernel)];exact ⟨rfl,rfl⟩))
  (fun os started H enc _ F=>by rw [OpenClaim.pre_eq_preRow];exact lifted os started H enc F)
theorem card:Rows.GradebookSolvesSaid:=said
end Go.Proofs.YteiiipaobncfgaaGreat.gradebookSolves
