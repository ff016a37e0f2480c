/- The statement InverterReturns holds: for every input that the form reads the call returns true. No condition. -/
import Derived.Test.YtipjiidkdllbpaaGreatDoorPRtn8
import Derived.Test.YtipjiidkdllbpaaGreatDoorCards
import Derived.Test.YtipjiidkdllbpaaGreatDoorTie
set_option linter.unusedSimpArgs false
set_option linter.unusedVariables false
set_option maxRecDepth 100000
namespace Go.Proofs.YtipjiidkdllbpaaGreatDoor.inverterReturns
open Go.Proofs.Tryz Go.ChangeShapes Go.WideShapes Go.ChangeAt Go.RowKit
theorem own:ownKnob prog.godebug=none:=by kernel_rfl
theorem lo:laidOutB prog=true:=by kernel_rfl
theorem ct (H:Type) (enc:TypeId×Value->H) (W:World) (base:Nat) (args:Array Value) (ds gs:List (DataW H)) (before:List MemPlace)
 (hval : ∀(j:Nat) t v,f5.params[j]? = some t->args[j]? = some v->Value.okWide prog W .any base t v)
 (hW:DataW.Whole enc prog f5.params.toList Rows.inverterReturnsSpec.vars false W args.toList ds gs before) (hL:laidMetH prog Rows.inverterReturnsRow.laid W) :
 Calls prog 5 args W fun e W'=> ∃v,e = .returned v/\Rows.inverterReturnsSpec.post enc prog f5 false true false false W args v W':=by
 have hW':=hW
 obtain ⟨p,q,hA0,hV,rfl,hfz,hnd⟩:=hW
 have hA:DataW.TrodAll enc prog W 0 (fun _=>true) true f5.params.toList args.toList ds p:=hA0
 rw [params5] at hA hval
 obtain ⟨v0,vs0,d0,ds0,p0,q0,hargs,rfl,rfl,h0,r0⟩:=trodAll_cons hA
 obtain ⟨v1,vs1,d1,ds1,p1,q1,rfl,rfl,rfl,h1,r1⟩:=trodAll_cons r0
 obtain ⟨rfl,rfl,rfl⟩:=trodAll_nil r1
 obtain rfl:args = #[v0,v1]:=by cases args;simp_all
 obtain ⟨rfl,rfl⟩:=trodVars_none hV
 clear hA0
 have hk0:=h0
 have hk1:=h1
 have hlt0 : ∀x∈p0,x.block<W.heap.size:=fun x hx=>by simpa using hW'.lt x (by simp [hx])
 have hlt1 : ∀x∈p1,x.block<W.heap.size:=fun x hx=>by simpa using hW'.lt x (by simp [hx])
 obtain ⟨cs0,rfl,-⟩ : ∃cs,v0 = .agg cs/\True:=by
  have:=hval 0 28 v0 rfl rfl
  unfold Value.okWide at this
  rw [underlying28] at this
  obtain ⟨cs,h1,-⟩:=this
  exact ⟨cs,h1,trivial⟩
 obtain ⟨fuel0,hf0⟩:=h0
 obtain ⟨g0,va0,vc0,pa0,pc0,ma0,mc0,hcl0,hwf0,hsits0,hroom0,hcap0⟩:=Bk.pg_of_trodR enc W (fun _=>true) hf0
 obtain rfl:cs0=(g0.cells va0 vc0 pa0 pc0 ma0 mc0).toArray:=by
  apply Array.ext'
  exact hcl0
 obtain ⟨cs1,rfl,-⟩ : ∃cs,v1 = .agg cs/\True:=by
  have:=hval 1 32 v1 rfl rfl
  unfold Value.okWide at this
  rw [underlying32] at this
  obtain ⟨cs,h1,-⟩:=this
  exact ⟨cs,h1,trivial⟩
 obtain ⟨fuel1,hf1⟩:=h1
 obtain ⟨g1,va1,vc1,pa1,pc1,ma1,mc1,hcl1,hsits1,hrg1⟩:=Bk.sv_of_trodR enc W (fun _=>true) hf1
 obtain rfl:cs1=(g1.row va1 vc1 pa1 pc1 ma1 mc1).toArray:=by
  apply Array.ext'
  exact hcl1
 obtain ⟨hS,hE⟩:=Bk.syms_of_laid hL
 refine (Bk.InverterReturns_d g0 va0 vc0 pa0 pc0 ma0 mc0 g1 va1 vc1 pa1 pc1 ma1 mc1 W hwf0 hsits0 hroom0 hcap0 hsits1 hrg1 hS hE).mono fun e W' ⟨he,hx⟩=>?_
 subst he
 refine ⟨_,rfl,_,_,_,[],p0++(p1++[]),[],hW',?_,?_,rfl,Below.frame hx _,fun h=>by cases h⟩
 . exact trodAll_cons_mk (shut_bool underlying4 _) trodAll_mk0
 . exact trodAll_cons_mk (Below.trod lo Bk.A9 (of_decide_eq_true Bk.A9) hk0 hx hlt0) (trodAll_cons_mk (Below.trod lo Bk.A9 (of_decide_eq_true Bk.A9) hk1 hx hlt1) (trodAll_mk0))
def sB (w:World) (g:Nat) (vs:Array Value):World:={ w with heap:=w.heap.modify g fun
      | .cells _ t frozen=>.cells vs t frozen
      | o=>o }
def strs (l:List (List UInt8)):Array Value:=(l.map Bk.str).toArray
def ints (k:IntKind) (l:List Int):Array Value:=(l.map (Value.int k)).toArray
noncomputable def lB:Nat:=(World.holding prog default ⟨#[],#[],[]⟩).heap.size
noncomputable def lW (os:Os):World:=
 sB (sB (sB (sB (sB (sB (World.holding prog os ⟨#[.cells #[Bk.str [118,97,108,117,101,32,111,117,116,32,111,102,32,114,97,110,103,101]] 247,.cells #[Bk.str [105,110,118,97,108,105,100,32,115,121,110,116,97,120]] 247],#[],[]⟩) 0 (strs Bk.symbols)) 4 (ints .u64 Lib.pow10Tab))
  5 (ints .u8 [0,1,28,2,29,14,24,3,30,22,20,15,25,17,4,8,31,27,13,23,21,19,16,7,26,12,18,6,11,5,10,9]))
  6 (ints .u8 [0,1,56,2,57,49,28,3,61,58,42,50,38,29,17,4,62,47,59,36,45,43,51,22,53,39,33,30,24,18,12,5,63,55,48,27,60,41,37,16,46,35,44,21,52,32,23,11,54,26,40,15,34,20,31,10,25,14,19,9,13,8,7,6]))
  3 #[.iface 245 (.pointer (some ⟨lB,0,none⟩))]) 2 #[.iface 245 (.pointer (some ⟨lB+1,0,none⟩))]
abbrev args0:Array Value:= #[.agg #[.slice none 0 0,.slice none 0 0,.int .u8 0,.int .i64 0,.string ⟨#[]⟩,.slice none 0 0],.agg #[.slice none 0 0,.slice none 0 0,.slice none 0 0]]
theorem lm (os:Os):laidMet prog Rows.inverterReturnsRow.laid ((lW os).forCall (fun _ _=>0) ⟨#[],args0,[]⟩).memory:=
 laidMet_of_run' 8 Bk.A9 Bk.A9
theorem reads (os:Os) {H:Type} (enc:TypeId×Value->H) : ∃places,DataW.whole enc prog ((lW os).forCall (fun _ _=>0) ⟨#[],args0,[]⟩).memory f5.params.toList Rows.inverterReturnsSpec.vars false args0.toList 8=some ([.agg [.nil,.nil,.agg [.lit (.int .u8 0),.lit (.int .i64 0),.lit (.string []),.nil]],.agg [.nil,.nil,.nil]],[],places):=
 ⟨[],by kernel_rfl⟩
theorem lf (os:Os) (started:os.Started) (H:Type) (enc:TypeId×Value->H) (F:Stop.Interp) :
 ReturnsInHanded {} checked os 5 .any ((OpenSpec.ofChange Rows.inverterReturnsSpec).preRow enc prog f5 Rows.inverterReturnsRow.domain false Rows.inverterReturnsRow.laid) (((OpenSpec.ofChange Rows.inverterReturnsSpec).at F).post enc prog f5 false true false false):=by
 obtain ⟨places,hx⟩:=reads os enc
 refine returnsInHanded_of_row (C:=checked) (s:=OpenSpec.ofChange Rows.inverterReturnsSpec) own started Bk.A9 func5
  (witness_row_at (enc:=enc) (C:=checked) false (lW os) args0 rfl Bk.A9 Bk.A9 Bk.A9
   (OpenSpec.preRow_of_cond 8 hx Bk.A9 (fun k hk=>by cases hk) Bk.A9 (lm os))) ?_
 intro W base args ds gs before hval hW _ _ _ hL _ _
 exact ct H enc W base args ds gs before hval hW hL
theorem said:Rows.InverterReturnsSaid:=
 OpenClaim.holds_of_cond 5 f5 rfl rfl rfl rfl rfl rfl rfl ⟨rfl,rfl,rfl,rfl,rfl⟩ rfl rfl rfl rfl rfl Bk.A9 func5 Bk.A9
  (of_decide_eq_true Bk.A9) (by unfold Func.isWrapper;first|(rw [if_pos (by decide +kernel)];kernel_rfl)|(rw [if_neg (by decide +kernel)];exact ⟨rfl,rfl⟩))
  (fun os started H enc _ F=>by rw [OpenClaim.pre_eq_preRow];exact lf os started H enc F)
theorem plain (f:FuncId) (fn:Func) (hf:Tryz.pinned.checked.prog.funcNamed "backstep/backsteplaw17.InverterReturns" = some f) (hfn:Tryz.pinned.checked.prog.funcs[f]? = some fn) :
 true=Tryz.pinned.checked.prog.looks [] /\ ∀(j:Nat) t,fn.params[j]? = some t->Tryz.pinned.checked.prog.wantsStandIn t=false:=by
 obtain rfl:f=5:=Option.some.inj ((show prog.funcNamed "backstep/backsteplaw17.InverterReturns" = some 5 by kernel_rfl).symm.trans hf) |>.symm
 obtain rfl:fn=f5:=(Option.some.inj (func5.symm.trans hfn)).symm
 refine ⟨by kernel_rfl,fun j t ht=>?_⟩
 rw [params5] at ht
 have h1:t=28\/t=32:=by simpa using Array.mem_of_getElem? ht
 rcases h1 with rfl|rfl
 . exact (show prog.wantsStandIn 28=false by kernel_rfl)
 . exact (show prog.wantsStandIn 32=false by kernel_rfl)
theorem card:Rows.InverterReturnsCardSaid:=
 Claim7.holds_tied_plain_at .later [] _ _ _ _ said (fun _ h=>by cases h) Bk.A9 (fun _ h=>by cases h) inverterReturns_row_tie rfl ⟨rfl,rfl⟩ Bk.A9 rfl plain Bk.A9
end Go.Proofs.YtipjiidkdllbpaaGreatDoor.inverterReturns
