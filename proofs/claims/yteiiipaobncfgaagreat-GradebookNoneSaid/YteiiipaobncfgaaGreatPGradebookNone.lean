/- The statement GradebookNone holds: for every input that the form reads the call returns true and leaves its input as it was. No condition beyond the row's own. -/
import Derived.Test.YteiiipaobncfgaaGreatPGradebookNone0
set_option linter.unusedSimpArgs false
set_option linter.unusedVariables false
namespace Go.Proofs.YteiiipaobncfgaaGreat.gradebookNone
open Go.ChangeShapes Go.WideShapes Go.ChangeAt Go.RowKit
theorem own:ownKnob Tryz.prog.godebug=none:=by kernel_rfl
theorem laidOut:laidOutB Tryz.prog=true:=by kernel_rfl
set_option maxRecDepth 100000 in
theorem contract (H:Type) (enc:TypeId×Value->H) (W:World) (base:Nat) (args:Array Value) (ds gs:List (DataW H)) (before:List MemPlace)
 (hval : ∀(j:Nat) t v,Tryz.f4.params[j]? = some t->args[j]? = some v->Value.okWide Tryz.prog W .any base t v)
 (hW:DataW.Whole enc Tryz.prog Tryz.f4.params.toList Rows.gradebookNoneSpec.vars false W args.toList ds gs before) (hL:laidMetH Tryz.prog Rows.gradebookNoneRow.laid W) :
 Calls Tryz.prog 4 args W fun e W'=> ∃v,e = .returned v/\Rows.gradebookNoneSpec.post enc Tryz.prog Tryz.f4 false true false false W args v W':=by
 have hW':=hW
 obtain ⟨p,q,hA0,hV,rfl,hfz,hnd⟩:=hW
 have hA:DataW.TrodAll enc Tryz.prog W 0 (fun _=>true) true Tryz.f4.params.toList args.toList ds p:=hA0
 rw [Tryz.params4] at hA hval
 obtain ⟨v0,vs0,d0,ds0,p0,q0,hargs,rfl,rfl,h0,r0⟩:=trodAll_cons hA
 obtain ⟨v1,vs1,d1,ds1,p1,q1,rfl,rfl,rfl,h1,r1⟩:=trodAll_cons r0
 obtain ⟨v2,vs2,d2,ds2,p2,q2,rfl,rfl,rfl,h2,r2⟩:=trodAll_cons r1
 obtain ⟨rfl,rfl,rfl⟩:=trodAll_nil r2
 obtain rfl:args = #[v0,v1,v2]:=by cases args;simp_all
 obtain ⟨rfl,rfl⟩:=trodVars_none hV
 clear hA0
 have hk0:=h0
 have hk1:=h1
 have hk2:=h2
 have hlt0 : ∀x∈p0,x.block<W.heap.size:=fun x hx=>by simpa using hW'.lt x (by simp [hx])
 have hlt1 : ∀x∈p1,x.block<W.heap.size:=fun x hx=>by simpa using hW'.lt x (by simp [hx])
 have hlt2 : ∀x∈p2,x.block<W.heap.size:=fun x hx=>by simpa using hW'.lt x (by simp [hx])
 obtain ⟨s0,rfl,-,-,ws0⟩:=Go.ChangeMaps.open_string Tryz.underlying9 (hval 0 9 v0 rfl rfl) h0
 have zs0:s0.data.toList.length<=9223372036854775807:=by
  have:s0.data.toList.length=s0.size:=by rw [Array.length_toList];rfl
  unfold maxLen at ws0;omega
 obtain ⟨s1,rfl,-,-,ws1⟩:=Go.ChangeMaps.open_string Tryz.underlying9 (hval 1 9 v1 rfl rfl) h1
 have zs1:s1.data.toList.length<=9223372036854775807:=by
  have:s1.data.toList.length=s1.size:=by rw [Array.length_toList];rfl
  unfold maxLen at ws1;omega
 obtain ⟨cs2,rfl,-⟩ : ∃cs,v2 = .agg cs/\True:=by
  have:=hval 2 31 v2 rfl rfl
  unfold Value.okWide at this
  rw [Tryz.underlying31] at this
  obtain ⟨cs,h1,-⟩:=this
  exact ⟨cs,h1,trivial⟩
 obtain ⟨fuel2,hf2⟩:=h2
 obtain ⟨g2,va2,vc2,pa2,pc2,ma2,mc2,hcl2,hwf2,hsits2,hroom2,hcap2⟩:=Bk.pg_of_trodR enc W (fun _=>true) hf2
 obtain rfl:cs2=(g2.cells va2 vc2 pa2 pc2 ma2 mc2).toArray:=by
  apply Array.ext'
  exact hcl2
 refine (Bk.None_d (s0.data.toList) (s1.data.toList) g2 va2 vc2 pa2 pc2 ma2 mc2 W zs0 zs1 hwf2 hsits2 hroom2 hcap2).mono fun e W' ⟨he,hx⟩=>?_
 subst he
 refine ⟨_,rfl,_,_,_,[],p0++(p1++(p2++[])),[],hW',?_,?_,rfl,Below.frame hx _,fun h=>by cases h⟩
 . exact trodAll_cons_mk (shut_bool Tryz.underlying4 _) trodAll_mk0
 . exact trodAll_cons_mk (Below.trod laidOut (by kernel_rfl) (of_decide_eq_true (by kernel_rfl)) hk0 hx hlt0) (trodAll_cons_mk (Below.trod laidOut (by kernel_rfl) (of_decide_eq_true (by kernel_rfl)) hk1 hx hlt1) (trodAll_cons_mk (Below.trod laidOut (by kernel_rfl) (of_decide_eq_true (by kernel_rfl)) hk2 hx hlt2) (trodAll_mk0)))
noncomputable def laidWorld (os:Os):World:=
 World.holding Tryz.prog os ⟨#[],#[],[]⟩
abbrev args0:Array Value:= #[.string ⟨#[]⟩,.string ⟨#[]⟩,.agg #[.slice none 0 0,.slice none 0 0,.int .u8 0,.int .i64 0,.string ⟨#[]⟩,.slice none 0 0]]
set_option maxRecDepth 100000 in
theorem laid_met (os:Os):laidMet Tryz.prog Rows.gradebookNoneRow.laid ((laidWorld os).forCall (fun _ _=>0) ⟨#[],args0,[]⟩).memory:=
 laidMet_of_run' 8 (by kernel_rfl) (by kernel_rfl)
set_option maxRecDepth 100000 in
theorem reads (os:Os) {H:Type} (enc:TypeId×Value->H) : ∃places,DataW.whole enc Tryz.prog ((laidWorld os).forCall (fun _ _=>0) ⟨#[],args0,[]⟩).memory Tryz.f4.params.toList Rows.gradebookNoneSpec.vars false args0.toList 8=some ([.lit (.string []),.lit (.string []),.agg [.nil,.nil,.agg [.lit (.int .u8 0),.lit (.int .i64 0),.lit (.string []),.nil]]],[],places):=
 ⟨[],by kernel_rfl⟩
set_option maxRecDepth 100000 in
theorem lifted (os:Os) (started:os.Started) (H:Type) (enc:TypeId×Value->H) (F:Stop.Interp) :
 ReturnsInHanded {} Tryz.checked os 4 .any ((OpenSpec.ofChange Rows.gradebookNoneSpec).preRow enc Tryz.prog Tryz.f4 Rows.gradebookNoneRow.domain false Rows.gradebookNoneRow.laid) (((OpenSpec.ofChange Rows.gradebookNoneSpec).at F).post enc Tryz.prog Tryz.f4 false true false false):=by
 obtain ⟨places,hx⟩:=reads os enc
 refine returnsInHanded_of_row (C:=Tryz.checked) (s:=OpenSpec.ofChange Rows.gradebookNoneSpec) own started (by kernel_rfl) Tryz.func4
  (witness_row_at (enc:=enc) (C:=Tryz.checked) false (laidWorld os) args0 rfl (by kernel_rfl) (by kernel_rfl) (by kernel_rfl)
   (OpenSpec.preRow_of_cond 8 hx (by kernel_rfl) (fun k hk=>by cases hk) (by kernel_rfl) (laid_met os))) ?_
 intro W base args ds gs before hval hW _ _ _ hL _ _
 exact contract H enc W base args ds gs before hval hW hL
set_option maxRecDepth 100000 in
theorem jk0:laidOutB Tryz.pinned.checked.prog=true:=by kernel_rfl
set_option maxRecDepth 100000 in
theorem jk1:mapsRowed Tryz.pinned.checked.prog=true:=by kernel_rfl
set_option maxRecDepth 100000 in
theorem jk2:(Rows.gradebookNoneRow.inPlace==Tryz.pinned.checked.prog.inPlace 4)=true:=by kernel_rfl
set_option maxRecDepth 100000 in
theorem jk3:(Rows.gradebookNoneRow.unfollowed==Tryz.pinned.checked.prog.unfollowed 4)=true:=by kernel_rfl
set_option maxRecDepth 100000 in
theorem jk4:(Rows.gradebookNoneRow.recurses==Tryz.pinned.checked.prog.recurses 4)=true:=by kernel_rfl
set_option maxRecDepth 100000 in
theorem jk5:(Rows.gradebookNoneRow.named==Tryz.pinned.checked.prog.varsNamed 4)=true:=by kernel_rfl
set_option maxRecDepth 100000 in
theorem jk6:(Rows.gradebookNoneRow.plainKeys==Tryz.pinned.checked.prog.plainKeys)=true:=by kernel_rfl
set_option maxRecDepth 100000 in
theorem jk7:Tryz.pinned.checked.prog.stopsHeard=true:=by kernel_rfl
set_option maxRecDepth 100000 in
theorem jk8:Tryz.pinned.checked.prog.mayEnter=true:=by kernel_rfl
set_option maxRecDepth 100000 in
theorem jk9:(Rows.gradebookNoneRow.lifted==Tryz.pinned.checked.prog.liftsFinal)=true:=by kernel_rfl
set_option maxRecDepth 100000 in
theorem jk10:(Tryz.pinned.checked.prog.make==some Rows.gradebookNoneRow.make)=true:=by kernel_rfl
set_option maxRecDepth 100000 in
theorem closed:joinedFacts Tryz.pinned.checked.prog 4 Tryz.f4 (OpenSpec.ofChange Rows.gradebookNoneSpec).bare Rows.gradebookNoneRow=true:=by
 unfold joinedFacts
 rewrite [jk0,jk1,jk2,jk3,jk4,jk5,jk6,jk7,jk8,jk9,jk10]
 kernel_rfl
theorem said:Rows.GradebookNoneSaid:=
 OpenClaim.holds_of_cond 4 Tryz.f4 rfl rfl rfl rfl rfl rfl rfl ⟨rfl,rfl,rfl,rfl,rfl⟩ rfl rfl rfl rfl rfl (by kernel_rfl) Tryz.func4 closed
  (of_decide_eq_true (by kernel_rfl)) (by unfold Func.isWrapper;first|(rw [if_pos (by decide +kernel)];kernel_rfl)|(rw [if_neg (by decide +kernel)];exact ⟨rfl,rfl⟩))
  (fun os started H enc _ F=>by rw [OpenClaim.pre_eq_preRow];exact lifted os started H enc F)
theorem card:Rows.GradebookNoneSaid:=said
end Go.Proofs.YteiiipaobncfgaaGreat.gradebookNone
