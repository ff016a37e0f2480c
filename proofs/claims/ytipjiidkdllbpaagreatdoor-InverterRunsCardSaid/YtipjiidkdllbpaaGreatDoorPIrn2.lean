/- Texts that the proofs of InverterRuns need. No condition. (Part 2 of 8.) -/
import Derived.Test.YtipjiidkdllbpaaGreatDoorPIrn1
set_option linter.unusedSimpArgs false
set_option linter.unusedVariables false
set_option maxRecDepth 100000
set_option maxHeartbeats 4000000
open Go.Proofs.Tryz
namespace Bk
open Go Go.RowKit
def C5 (late:List Nat) (i:Nat):Bool:= !(late.contains i)
def L9 (ops:Array Oper) (late free0:List Nat) (i:Nat):Prop:= ∀(listed:Array Bool) (j:Nat) (o:Oper),DC ops listed→(∀k∈free0,listed.getD k false=true)→listed.getD j true=false→C5 late j=false→ops[j]? = some o→(∀e∈o.after,Region.binds .any e=true→listed.getD e.on false=true)→listed.getD i false=true
def Ma (ops:Array Oper) (late free0:List Nat) (j0:Nat):Bool:=((List.range ops.size).all fun i=> !(C5 late i)||(List.range' (i+1) (ops.size-(i+1))).any fun m=>(Nat.beq m j0||C5 late m)&&Ik ops m i)&&late.all fun j=>free0.contains j||(Nat.beq j j0||Ik ops j j0)
theorem JZ {ops:Array Oper} {late free0:List Nat} {j0:Nat} (h:Ma ops late free0 j0=true) {i:Nat} (hi:i<ops.size) (hE:C5 late i=true):L9 ops late free0 i:=by
 simp only [Ma,Bool.and_eq_true,List.all_eq_true,List.mem_range] at h;obtain ⟨h1,h2⟩:=h;intro listed j o hdc hF hun hj ho hall
 have hjm:j∈late:=by
  unfold C5 at hj
  simpa using hj
 have a:=h2 j hjm
 have a:(Nat.beq j j0||Ik ops j j0)=true:=by
  rw [Bool.or_eq_true] at a
  rcases a with hc|hc
  · exfalso
    have hl:=hF j (by simpa using hc)
    rcases Nat.lt_or_ge j listed.size with h'|h'
    · simp [h'] at hl hun;rw [hl] at hun;cases hun
    · simp [Array.getElem?_eq_none h'] at hl
  · exact hc
 simp only [Bool.or_eq_true] at a
 have b : ∀o0,ops[j0]? = some o0 → ∀e∈o0.after,Region.binds .any e=true→listed.getD e.on false=true:=by
  intro o0 c
  rcases a with a|a
  · have hjj:=Nat.eq_of_beq_eq_true a
    subst hjj;rw [ho] at c;obtain rfl:=Option.some.inj c
    exact hall
  · obtain ⟨oj,e',hoj,he',hb',hon'⟩:=Ez a
    rw [ho] at hoj;obtain rfl:=Option.some.inj hoj;have hl:=hall e' he' hb';rw [hon'] at hl
    exact hdc j0 o0 c hl
 have key : ∀d i,ops.size-i≤d→i<ops.size→C5 late i=true→listed.getD i false=true:=by
  intro d
  induction d with
  | zero=>intro i hd hi;omega
  | succ d ih=>
   intro i hd hi hE;have hg:=h1 i hi;rw [hE] at hg;simp only [Bool.not_true,Bool.false_or,List.any_eq_true,List.mem_range'_1,Bool.and_eq_true,Bool.or_eq_true] at hg;obtain ⟨m,hm,hc,hw⟩:=hg;obtain ⟨om,e,hom,he,hb,hon⟩:=Ez hw
   rcases hc with hc|hc
   · have hmj:=Nat.eq_of_beq_eq_true hc
     subst hmj;have:=b om hom e he hb
     rwa [hon] at this
   · have hl:=ih m (by omega) (by omega) hc
     have:=hdc m om hom hl e he hb
     rwa [hon] at this
 exact key _ i (Nat.le_refl _) hi hE
section
variable {P:Program} {ops:Array Oper} {Q:Exit→Act→World→Prop} {S S2:World→Prop} {late free0:List Nat} {K:Nat}
def I1 (P:Program) (ops:Array Oper) (Q:Exit→Act→World→Prop) (S S2:World→Prop) (late:List Nat) (K:Nat):Nat→Array Bool→Act→World→Prop
 | 0,listed,a,w=>Region.ready .any ops listed=[]∧Q .normal a w
 | fuel+1,listed,a,w=>
  (Region.ready .any ops listed=[]→Q .normal a w) ∧
  ∀i∈Region.ready .any ops listed,wpOp P ops Q i (fun a' w'=>(C5 late i=true→S w')∧(i<K→S2 w')∧I1 P ops Q S S2 late K fuel (listed.setIfInBounds i true) a' w') a w
theorem J0 : ∀(fuel:Nat) (listed:Array Bool) (a:Act) (w:World),I1 P ops Q S S2 late K fuel listed a w→wpAny P .any ops Q fuel listed a w
 | 0,_,_,_,h=>h
 | fuel+1,_,_,_,h=>⟨h.1,fun i hi=>wpOp_mono (fun a' w' h'=>J0 fuel _ a' w' h'.2.2) (h.2 i hi)⟩
theorem Lf {listed:Array Bool} {j k:Nat} (h:listed.getD k false=true):(listed.setIfInBounds j true).getD k false=true:=by
 by_cases hjk:j=k
 · subst hjk
   rcases Nat.lt_or_ge j listed.size with h'|h'
   · simp [h']
   · simp [Array.getElem?_eq_none h'] at h
 · rw [getD_set_ne false hjk];exact h
theorem Io {i:Nat} {oi:Oper} {v:Value} {T:World→Prop} (hi:ops[i]? = some oi) (hSS : ∀w,S w→S2 w) (hT:(C5 late i=true∧L9 ops late free0 i∧T=S)∨(C5 late i=false∧EZ ops K i∧T=S2)) (hsel : ∀(j:Nat) (o:Oper) cs b,ops[j]? = some o→o.op≠.select cs b)
 (hQ : ∀c a w,Q (.panic c) (a.put oi.dst v) w→Q (.panic c) a w) :
 ∀(fuel:Nat) (listed:Array Bool) (a:Act) (w:World),DC ops listed→(C5 late i=true → ∀k∈free0,listed.getD k false=true) →
  (∀j oj,ops[j]? = some oj→j≠i→listed.getD j true=false→(∀e∈oj.after,Region.binds .any e=true→e.on≠i)→oi.apart ops oj=true) →
  i∈Region.ready .any ops listed→YieldsIf P ops T oi v a→T w →
  I1 P ops Q S S2 late K fuel (listed.setIfInBounds i true) (a.put oi.dst v) w→I1 P ops Q S S2 late K (fuel+1) listed a w:=by
 have hSi : ∀w,T w→C5 late i=true→S w:=fun w h he=>by
  rcases hT with ⟨-,-,rfl⟩|⟨h0,-⟩
  · exact h
  · rw [h0] at he;cases he
 have hSi2 : ∀w,T w→S2 w:=fun w h=>by
  rcases hT with ⟨-,-,rfl⟩|⟨-,-,rfl⟩
  · exact hSS w h
  · exact h
 intro fuel
 induction fuel with
 | zero=>
  intro listed a w _ _ _ hr hy hS H;refine ⟨fun h=>(by rw [h] at hr;cases hr),fun j hj=>?_⟩
  by_cases hji:j=i
  · subst hji;exact hy.wpOp hi hS ⟨hSi w hS,fun _=>hSi2 w hS,H⟩
  · have:=ready_mono hj hji
    rw [H.1] at this
    cases this
 | succ fuel ih=>
  intro listed a w hdc hF hfree hr hy hS H;refine ⟨fun h=>(by rw [h] at hr;cases hr),fun j hj=>?_⟩
  by_cases hji:j=i
  · subst hji;exact hy.wpOp hi hS ⟨hSi w hS,fun _=>hSi2 w hS,H⟩
  · have h1:=H.2 j (ready_mono hj hji)
    obtain ⟨hjun,oj,hoj,hall⟩:=mem_ready.1 hj
    have hun : ¬listed.getD i false=true:=fun hc=>by
     have h0:=(mem_ready.1 hr).1
     rcases Nat.lt_or_ge i listed.size with h'|h'
     · simp [h'] at h0 hc;rw [h0] at hc;cases hc
     · simp [Array.getElem?_eq_none h'] at hc
    have hTj : ∀w',(C5 late j=true→S w')→(j<K→S2 w')→T w':=fun w' h' h2=>by
     rcases hT with ⟨hEi,hre,rfl⟩|⟨-,hre,rfl⟩
     · cases hej:C5 late j
       · exact absurd (hre listed j oj hdc (hF hEi) hjun hej hoj hall) hun
       · exact h' hej
     · rcases Nat.lt_or_ge j K with h|h
       · exact h2 h
       · exact absurd (hre listed j oj hdc h hoj hall) hun
    have hnot : ∀e∈oj.after,Region.binds .any e=true→e.on≠i:=fun e he hb heq=>hun (heq▸hall e he hb)
    have h2:=wpOp_putIf hoj (hfree j oj hoj hji hjun hnot) (fun cs b=>hsel i oi cs b hi) (fun cs b=>hsel j oj cs b hoj) hQ hy h1;have hfree' : ∀k ok,ops[k]? = some ok→k≠i→(listed.setIfInBounds j true).getD k true=false →
     (∀e∈ok.after,Region.binds .any e=true→e.on≠i)→oi.apart ops ok=true:=fun k ok hk hki hun hno=>by
     refine hfree k ok hk hki ?_ hno
     by_cases hjk:j=k
     · subst hjk;exact hjun
     · rw [getD_set_ne true hjk] at hun;exact hun
    refine wpOp_mono (fun a' w' h3=>⟨h3.2.1,h3.2.2.1,ih (listed.setIfInBounds j true) a' w' (hdc.set hj) (fun hE k hk=>Lf (hF hE k hk)) hfree' (ready_mono hr (Ne.symm hji)) h3.1 (hTj w' h3.2.1 h3.2.2.1) ?_⟩) h2;rw [Array.setIfInBounds_comm _ _ hji]
    exact h3.2.2.2
end
inductive ScE where
 | done
 | pure (i:Nat) (r:ScE)
 | free (i:Nat) (r:ScE)
 | put (i:Nat) (r:ScE)
 | tail (k:Nat)
def ScE.ok (ops:Array Oper) (late free0:List Nat) (K:Nat):ScE→Nat→Array Bool→Bool
 | .done,_,listed=>(Region.ready .any ops listed).isEmpty
 | .pure i r,f+1,listed=>(free0.all fun k=>listed.getD k false)&&C5 late i&&(Region.ready .any ops listed).contains i&&Region.free .any ops listed i&&ScE.ok ops late free0 K r f (listed.setIfInBounds i true)
 | .free i r,f+1,listed=> !(C5 late i)&&Nat.blt i K&&(Region.ready .any ops listed).contains i&&Region.free .any ops listed i&&ScE.ok ops late free0 K r f (listed.setIfInBounds i true)
 | .put i r,f+1,listed=> !(C5 late i)&&(Region.ready .any ops listed==[i])&&ScE.ok ops late free0 K r f (listed.setIfInBounds i true)
 | .tail k,f,listed=>Nat.ble K k&&Nat.beq (f+k) ops.size&&(List.range' k f).all (fun j=> !(C5 late j))&&E2 ops f k listed
 | _,_,_=>false
def HTE (P:Program) (ops:Array Oper) (Q:Exit→Act→World→Prop) (S S2:World→Prop):ScE→Act→World→Prop
 | .done,a,w=>Q .normal a w
 | .pure i r,a,w=>S w ∧ ∃o v,ops.toList[i]? = some o∧YieldsIf P ops S o v a∧HTE P ops Q S S2 r (a.put o.dst v) w
 | .free i r,a,w=>S2 w ∧ ∃o v,ops.toList[i]? = some o∧YieldsIf P ops S2 o v a∧HTE P ops Q S S2 r (a.put o.dst v) w
 | .put i r,a,w=>wpOp P ops Q i (fun a' w'=>S2 w'∧HTE P ops Q S S2 r a' w') a w
 | .tail k,a,w=>wpList P ops Q (ops.toList.drop k) a w
theorem Hs {P:Program} {ops:Array Oper} {Q:Exit→Act→World→Prop} {S S2:World→Prop} {late:List Nat} {K:Nat} : ∀(f k:Nat) (listed:Array Bool) (a:Act) (w:World),K≤k→f+k=ops.size→(∀j,k≤j→j<k+f→C5 late j=false)→E2 ops f k listed=true→wpList P ops Q (ops.toList.drop k) a w→I1 P ops Q S S2 late K f listed a w
 | 0,k,listed,a,w,hK,hf,hl,hc,h=>by
  have:ops.toList.drop k=[]:=List.drop_eq_nil_of_le (by simp;omega);rw [this] at h
  exact ⟨by simpa [E2] using hc,h⟩
 | f+1,k,listed,a,w,hK,hf,hl,hc,h=>by
  simp only [E2,Bool.and_eq_true,beq_iff_eq] at hc
  have hlt:k<ops.toList.length:=by simp;omega
  rw [List.drop_eq_getElem_cons hlt] at h;refine ⟨fun e=>absurd (hc.1.symm.trans e) (by simp),fun i hi=>?_⟩;rw [hc.1] at hi;simp only [List.mem_singleton] at hi;subst hi;have he:=hl i (Nat.le_refl _) (by omega)
  have hl' : ∀j,i+1≤j→j<i+1+f→C5 late j=false:=fun j h1 h2=>hl j (by omega) (by omega)
  have ho:ops[i]? = some ops.toList[i]:=by simp
  unfold wpList at h
  unfold wpOp
  rw [ho];simp only
  split
  · rename_i hw
    rw [if_pos hw] at h
    rcases h with h|h
    · exact Or.inl (Oper.wp_mono (fun a' w' h'=>⟨fun e=>(by rw [he] at e;cases e),fun e=>by omega,Hs f (i+1) _ a' w' (by omega) (by omega) hl' hc.2 h'⟩) h)
    · exact Or.inr h
  · rename_i hw
    rw [if_neg hw] at h
    exact ⟨fun e=>(by rw [he] at e;cases e),fun e=>by omega,Hs f (i+1) _ _ w (by omega) (by omega) hl' hc.2 h⟩
theorem HTE.any {P:Program} {ops:Array Oper} {Q:Exit→Act→World→Prop} {S S2:World→Prop} {late free0:List Nat} {K:Nat} (hSS : ∀w,S w→S2 w) (hre2 : ∀i,i<K→EZ ops K i) (hs:Region.noSelect ops=true) (hre : ∀i,i<ops.size→C5 late i=true→L9 ops late free0 i) (hQ:DP Q) :
 ∀(s:ScE) (f:Nat) (listed:Array Bool) (a:Act) (w:World),DC ops listed→HTE P ops Q S S2 s a w→ScE.ok ops late free0 K s f listed=true→I1 P ops Q S S2 late K f listed a w
 | .done,f,listed,a,w,hd,h,hk=>by
  have hr:Region.ready .any ops listed=[]:=by simpa [ScE.ok] using hk
  cases f with
  | zero=>exact ⟨hr,h⟩
  | succ f=>exact ⟨fun _=>h,by rw [hr];simp⟩
 | .tail k,f,listed,a,w,hd,h,hk=>by
  simp only [ScE.ok,Bool.and_eq_true,List.all_eq_true,List.mem_range'_1] at hk
  exact Hs f k listed a w (Nat.le_of_ble_eq_true hk.1.1.1) (Nat.eq_of_beq_eq_true hk.1.1.2) (fun j h1 h2=>by simpa using hk.1.2 j ⟨h1,h2⟩) hk.2 h
 | .pure i r,0,listed,a,w,hd,h,hk=>by simp [ScE.ok] at hk
 | .pure i r,f+1,listed,a,w,hd,h,hk=>by
  simp only [ScE.ok,Bool.and_eq_true] at hk;obtain ⟨hS,o,v,ho,hy,hr⟩:=h
  have hi:ops[i]? = some o:=by simpa using ho
  have hil:i<ops.size:=(Array.getElem?_eq_some_iff.1 hi).1
  have hir:i∈Region.ready .any ops listed:=by simpa using hk.1.1.2
  exact Io (T:=S) (free0:=free0) hi hSS (Or.inl ⟨hk.1.1.1.2,hre i hil hk.1.1.1.2,rfl⟩) (Region.noSelect_spec hs) (fun c a w=>hQ o.dst v c a w) f listed a w hd (fun _ k hkm=>List.all_eq_true.1 hk.1.1.1.1 k hkm) (Region.free_spec hi hk.1.2) hir hy hS
   (HTE.any hSS hre2 hs hre hQ r f _ _ w (hd.set hir) hr hk.2)
 | .free i r,0,listed,a,w,hd,h,hk=>by simp [ScE.ok] at hk
 | .free i r,f+1,listed,a,w,hd,h,hk=>by
  simp only [ScE.ok,Bool.and_eq_true,Bool.not_eq_true'] at hk;obtain ⟨hS,o,v,ho,hy,hr⟩:=h
  have hi:ops[i]? = some o:=by simpa using ho
  have hir:i∈Region.ready .any ops listed:=by simpa using hk.1.1.2
  have hiK:=Nat.le_of_ble_eq_true hk.1.1.1.2
  exact Io (T:=S2) (free0:=free0) hi hSS (Or.inr ⟨hk.1.1.1.1,hre2 i hiK,rfl⟩) (Region.noSelect_spec hs) (fun c a w=>hQ o.dst v c a w) f listed a w hd (fun e=>(by rw [hk.1.1.1.1] at e;cases e)) (Region.free_spec hi hk.1.2) hir hy hS
   (HTE.any hSS hre2 hs hre hQ r f _ _ w (hd.set hir) hr hk.2)
 | .put i r,0,listed,a,w,hd,h,hk=>by simp [ScE.ok] at hk
 | .put i r,f+1,listed,a,w,hd,h,hk=>by
  simp only [ScE.ok,Bool.and_eq_true,Bool.not_eq_true',beq_iff_eq] at hk;obtain ⟨⟨h1,h2⟩,h3⟩:=hk;refine ⟨fun e=>(by rw [h2] at e;cases e),fun j hj=>?_⟩;rw [h2] at hj;simp only [List.mem_singleton] at hj;subst hj
  have hir:j∈Region.ready .any ops listed:=by rw [h2];simp
  exact wpOp_mono (fun a' w' h'=>⟨fun e=>(by rw [h1] at e;cases e),fun _=>h'.1,HTE.any hSS hre2 hs hre hQ r f _ a' w' (hd.set hir) h'.2 h3⟩) h
def TS (P:Program) (n:Nat) (ops:Array Oper) (Q:Exit→Act→World→Prop) (S S2:World→Prop) (s:ScE) (l:Sl) (w:World):Prop:= ∀a,Env n l a→HTE P ops Q S S2 s a w
section draws
variable {P:Program} {n:Nat} {ops:Array Oper} {Q:Exit→Act→World→Prop} {S S2:World→Prop} {l:Sl} {w:World}
 {d i:Nat} {ty:TypeId} {pos:String} {after:Array Edge} {r:ScE}
theorem FY {id:Nat} {os:List Oper} (S S2:World→Prop) (late free0:List Nat) (j0 K:Nat) (s:ScE) (hSS : ∀w,S w→S2 w) (hm:P.follows .mixedOrders=true) (hs:(Region.noSelect os.toArray&&(Nat.ble os.length K||JU os.toArray K)&&Ma os.toArray late free0 j0&&ScE.ok os.toArray late free0 K s os.length (Array.replicate os.length false))=true) (hQ:DP Q)
 (h : ∀w1,Ext w w1→w1.heap=w.heap→TS P n os.toArray Q S S2 s l w1):CW P n (.region id os.toArray true) Q l w:=by
 unfold CW
 intro a ha;simp only [Bool.and_eq_true] at hs;have h2:=h w.drew (Ext.refl w).drew rfl
 have hdc:DC os.toArray (Array.replicate os.length false):=fun k o _ hl=>by
  exfalso
  rcases Nat.lt_or_ge k os.length with h'|h'
  · simp [h'] at hl
  · simp [Array.getElem?_eq_none,h'] at hl
 have b : ∀i,i<K→EZ os.toArray K i:=by
  by_cases hK:K<os.toArray.size
  · have hl:=hs.1.1.2
    simp only [Bool.or_eq_true] at hl
    rcases hl with hl|hl
    · have:=Nat.le_of_ble_eq_true hl
      simp at hK;omega
    · exact FP hl hK
  · intro i hi listed j o _ hj ho _
    have hjs:j<os.toArray.size:=(Array.getElem?_eq_some_iff.1 ho).1
    omega
 refine wp_region_any hm (J0 (S:=S) (S2:=S2) (late:=late) (K:=K) _ _ _ _ ?_);have:=HTE.any hSS b hs.1.1.1 (fun i hi hE=>JZ hs.1.2 hi hE) hQ s os.length (Array.replicate os.length false) a w.drew hdc (h2 a ha) hs.2
 simpa using this
theorem Eo {os:List Oper} {k:Nat} (he:Lr k ops.toList=some os) (h:LW P n ops Q os l w):TS P n ops Q S S2 (.tail k) l w:=by
 unfold LW at h
 intro a ha
 show wpList P ops Q (ops.toList.drop k) a w
 rw [Ho he];exact h a ha
theorem Ar {op:Op} {v:Value} (hS:S w) (hi:ops.toList[i]? = some ⟨some d,op,ty,pos,after,none⟩) (hp:BH P n l S op ty v) (hd:Nat.blt d n=true) (k:TS P n ops Q S S2 r ((d,v)::l) w) :
 TS P n ops Q S S2 (.pure i r) l w:=by
 unfold BH at hp
 exact fun a ha=>⟨hS,_,v,hi,Or.inl ⟨rfl,fun w hS=>hp a w _ _ _ _ ha hS⟩,k _ (ha.put hd v)⟩
theorem BL {op:Op} {v:Value} (hS:S2 w) (hi:ops.toList[i]? = some ⟨some d,op,ty,pos,after,none⟩) (hp:BH P n l S2 op ty v) (hd:Nat.blt d n=true) (k:TS P n ops Q S S2 r ((d,v)::l) w) :
 TS P n ops Q S S2 (.free i r) l w:=by
 unfold BH at hp
 exact fun a ha=>⟨hS,_,v,hi,Or.inl ⟨rfl,fun w hS=>hp a w _ _ _ _ ha hS⟩,k _ (ha.put hd v)⟩
theorem Ep {op:Op} {K':Option Value→World→Prop} (hi:ops.toList[i]? = some ⟨none,op,ty,pos,after,none⟩) (hp:Ck P n l op ty w K')
 (k : ∀v w1,K' v w1→S2 w1∧TS P n ops Q S S2 r l w1):TS P n ops Q S S2 (.put i r) l w:=fun a ha=>by
 unfold Ck at hp
 have hi':ops[i]? = some ⟨none,op,ty,pos,after,none⟩:=by simpa using hi
 show wpOp P ops Q i _ a w
 unfold wpOp
 rw [hi'];simp only;rw [if_pos (Bx rfl)]
 left
 exact hp a _ _ _ _ _ _ ha (fun v w1 hK=>⟨(k _ w1 hK).1,(k _ w1 hK).2 _ ha⟩) (fun w1 h=>⟨(k _ w1 h).1,(k _ w1 h).2 _ ha⟩)
end draws
open Go.Proofs
attribute [local irreducible] Go.Calls
def MM (x:Int):Int:=IntKind.i64.wrap x
def Oz (op:BinOp) (x y:Int):Int:=match op with
 | .and=>MM (BitVec.ofInt 64 x &&& BitVec.ofInt 64 y).toNat
 | .or=>MM (BitVec.ofInt 64 x ||| BitVec.ofInt 64 y).toNat
 | _=>MM (BitVec.ofInt 64 x ^^^ BitVec.ofInt 64 y).toNat
section
variable {P:Program} {n:Nat} {l:Sl} {S:World→Prop} {ty:TypeId} {x y:Operand} {t t':Nat} {a b:Int}
theorem TU (hx:ev l x=some (.int .i64 a)) (hy:ev l y=some (.int .i64 b)):BH P n l S (.binOp .and t x y t') ty (.int .i64 (Oz .and a b)):=by
 unfold BH
 intro d w dst pos after g ha _;simp only [execOp,ha.ev hx,ha.ev hy,Sem.run_bind,BA,Result.andThen,binOp,Op.intBits]
 rfl
theorem Vj (hx:ev l x=some (.int .i64 a)) (hy:ev l y=some (.int .i64 b)):BH P n l S (.binOp .or t x y t') ty (.int .i64 (Oz .or a b)):=by
 unfold BH
 intro d w dst pos after g ha _;simp only [execOp,ha.ev hx,ha.ev hy,Sem.run_bind,BA,Result.andThen,binOp,Op.intBits]
 rfl
theorem PE (hx:ev l x=some (.int .i64 a)) (hy:ev l y=some (.int .i64 b)):BH P n l S (.binOp .xor t x y t') ty (.int .i64 (Oz .xor a b)):=by
 unfold BH
 intro d w dst pos after g ha _;simp only [execOp,ha.ev hx,ha.ev hy,Sem.run_bind,BA,Result.andThen,binOp,Op.intBits]
 rfl
theorem J1 (hx:ev l x=some (.int .i64 a)) (hy:ev l y=some (.int .i64 b)):BH P n l S (.binOp .add t x y t') ty (.int .i64 (MM (a+b))):=Ek hx hy rfl
theorem MT (hx:ev l x=some (.int .i64 a)) (hy:ev l y=some (.int .i64 b)):BH P n l S (.binOp .sub t x y t') ty (.int .i64 (MM (a-b))):=Bu hx hy rfl
theorem Sd (hx:ev l x=some (.int .i64 a)) (hy:ev l y=some (.int .i64 b)):BH P n l S (.binOp .mul t x y t') ty (.int .i64 (MM (a*b))):=TJ hx hy rfl
theorem Se (hx:ev l x=some (.int .i64 a)) (hy:ev l y=some (.int .i64 b)) (hb:b≠0):BH P n l S (.binOp .quo t x y t') ty (.int .i64 (MM (a.tdiv b))):=TP hx hy hb rfl
theorem MU (hx:ev l x=some (.int .i64 a)) (hy:ev l y=some (.int .i64 b)) (hb:b≠0):BH P n l S (.binOp .rem t x y t') ty (.int .i64 (a.tmod b)):=TQ hx hy hb rfl
theorem Sf (hx:ev l x=some (.int .i64 a)):BH P n l S (.unOp .neg t x) ty (.int .i64 (MM (0-a))):=by
 unfold BH
 intro d w dst pos after g ha _
 simp [execOp,ha.ev hx,Op.unary,Op.intArith,MM]
end
def TI (b:Bool):Int:=if b then 1 else 0
def Sg (k x y:Int):Int×Int:=if y=0 then (0,11) else if k=11 then (MM (x.tdiv y),0) else (x.tmod y,0)
def Gg (k x y:Int):Int×Int:=
 if k=8 then (MM (x+y),0) else if k=9 then (MM (x-y),0) else if k=10 then (MM (x*y),0) else if k=11∨k=12 then Sg k x y
 else if k=13 then (Oz .and x y,0) else if k=14 then (Oz .or x y,0) else if k=15 then (Oz .xor x y,0)
 else if k=16 then (TI (decide (x=y)),0) else if k=17 then (TI (decide (x≠y)),0) else if k=18 then (TI (decide (x<y)),0)
 else if k=19 then (TI (decide (x≤y)),0) else if k=20 then (TI (decide (y<x)),0) else if k=21 then (TI (decide (y≤x)),0)
 else if k=22 then (TI (decide (x≠0∧y≠0)),0) else if k=23 then (TI (decide (x≠0∨y≠0)),0) else (0,7)
def Gh (k x:Int):Int×Int:=if k=6 then (MM (0-x),0) else if k=7 then (TI (decide (x=0)),0) else (0,7)
theorem C6 (b:Bool) (w:World):Calls prog 196 #[.bool b] w fun e w'=>e = .returned (.int .i64 (TI b))∧w=w':=by
 cases b
 · refine Ad func196 ntmps196 rfl rfl ?_
   focus
    refine eK ?_;refine Af rfl rfl ?_;rotate_left
   exact ⟨rfl,rfl⟩
 · refine Ad func196 ntmps196 rfl rfl ?_
   focus
    refine eK ?_;refine Af rfl rfl ?_;rotate_left
   exact ⟨rfl,rfl⟩
theorem MV (k x y:Int) (w:World):Calls prog 197 #[.int .u8 k,.int .i64 x,.int .i64 y] w fun e w'=>e = .returned (.tuple #[.int .i64 (Sg k x y).1,.int .i64 (Sg k x y).2])∧w=w':=by
 refine Ad func197 ntmps197 rfl rfl ?_
 focus
  refine eK ?_;refine AQ rfl (fun c1=>?_) (fun c1=>?_);refine eK ?_;refine AW rfl rfl rfl ?_;rotate_left;refine eK ?_;refine AQ rfl (fun c2=>?_) (fun c2=>?_);refine eK ?_;refine C1 (Se rfl rfl ‹_›) ?_;refine eK ?_;refine AW rfl rfl rfl ?_;rotate_left;refine eK ?_;refine C1 (MU rfl rfl ‹_›) ?_;refine eK ?_;refine AW rfl rfl rfl ?_;rotate_left
 all_goals (refine ⟨?_,rfl⟩;unfold Sg;simp [*])
theorem TV (k x:Int) (w:World):Calls prog 190 #[.int .u8 k,.int .i64 x] w fun e w'=>e = .returned (.tuple #[.int .i64 (Gh k x).1,.int .i64 (Gh k x).2])∧w=w':=by
 refine Ad func190 ntmps190 rfl rfl ?_
 focus
  refine eK ?_;refine AQ rfl (fun c1=>?_) (fun c1=>?_);refine eK ?_;refine C1 (Sf rfl) ?_;refine eK ?_;refine AW rfl rfl rfl ?_;rotate_left;refine eK ?_;refine AQ rfl (fun c2=>?_) (fun c2=>?_);refine eK ?_;refine cC rfl (C6 _ _) ?_;rintro _ w3 ⟨⟨⟩,rfl⟩;refine eK ?_;refine AW rfl rfl rfl ?_;rotate_left;refine eK ?_;refine AW rfl rfl rfl ?_;rotate_left
 all_goals (refine ⟨?_,rfl⟩;unfold Gh;simp [*])
set_option maxHeartbeats 8000000 in
theorem TX (k x y:Int) (w:World):Calls prog 191 #[.int .u8 k,.int .i64 x,.int .i64 y] w fun e w'=>e = .returned (.tuple #[.int .i64 (Gg k x y).1,.int .i64 (Gg k x y).2])∧w=w':=by
 refine Ad func191 ntmps191 rfl rfl ?_
 focus
  refine eK ?_;refine AQ rfl (fun c1=>?_) (fun c1=>?_);refine eK ?_;refine C1 (J1 rfl rfl) ?_;refine eK ?_;refine AW rfl rfl rfl ?_;rotate_left;refine eK ?_;refine AQ rfl (fun c2=>?_) (fun c2=>?_);refine eK ?_;refine C1 (MT rfl rfl) ?_;refine eK ?_;refine AW rfl rfl rfl ?_;rotate_left;refine eK ?_;refine AQ rfl (fun c3=>?_) (fun c3=>?_);refine eK ?_;refine C1 (Sd rfl rfl) ?_;refine eK ?_;refine AW rfl rfl rfl ?_;rotate_left;refine eK ?_;refine AQ rfl (fun c4=>?_) (fun c4=>?_);refine eK ?_;refine cC rfl (MV _ _ _ _) ?_;rintro _ w5 ⟨⟨⟩,rfl⟩;refine eK ?_;refine AW rfl rfl rfl ?_;rotate_left;refine eK ?_;refine AQ rfl (fun c6=>?_) (fun c6=>?_);refine eK ?_;refine cC rfl (MV _ _ _ _) ?_;rintro _ w7 ⟨⟨⟩,rfl⟩;refine eK ?_;refine AW rfl rfl rfl ?_;rotate_left;refine eK ?_;refine AQ rfl (fun c8=>?_) (fun c8=>?_);refine eK ?_;refine C1 (TU rfl rfl) ?_;refine eK ?_;refine AW rfl rfl rfl ?_;rotate_left;refine eK ?_;refine AQ rfl (fun c9=>?_) (fun c9=>?_);refine eK ?_;refine C1 (Vj rfl rfl) ?_;refine eK ?_;refine AW rfl rfl rfl ?_;rotate_left;refine eK ?_;refine AQ rfl (fun a=>?_) (fun a=>?_);refine eK ?_;refine C1 (PE rfl rfl) ?_;refine eK ?_;refine AW rfl rfl rfl ?_;rotate_left;refine eK ?_;refine AQ rfl (fun b=>?_) (fun b=>?_);refine eK ?_;refine cC rfl (C6 _ _) ?_
  rintro _ n ⟨⟨⟩,rfl⟩;refine eK ?_;refine AW rfl rfl rfl ?_;rotate_left;refine eK ?_;refine AQ rfl (fun c=>?_) (fun c=>?_);refine eK ?_;refine cC rfl (C6 _ _) ?_;rintro _ o ⟨⟨⟩,rfl⟩;refine eK ?_;refine AW rfl rfl rfl ?_;rotate_left;refine eK ?_;refine AQ rfl (fun d=>?_) (fun d=>?_);refine eK ?_;refine cC rfl (C6 _ _) ?_;rintro _ p ⟨⟨⟩,rfl⟩;refine eK ?_;refine AW rfl rfl rfl ?_;rotate_left;refine eK ?_;refine AQ rfl (fun f=>?_) (fun f=>?_);refine eK ?_;refine cC rfl (C6 _ _) ?_;rintro _ q ⟨⟨⟩,rfl⟩;refine eK ?_;refine AW rfl rfl rfl ?_;rotate_left;refine eK ?_;refine AQ rfl (fun g=>?_) (fun g=>?_);refine eK ?_;refine cC rfl (C6 _ _) ?_;rintro _ r ⟨⟨⟩,rfl⟩;refine eK ?_;refine AW rfl rfl rfl ?_;rotate_left;refine eK ?_;refine AQ rfl (fun h=>?_) (fun h=>?_);refine eK ?_;refine cC rfl (C6 _ _) ?_;rintro _ s ⟨⟨⟩,rfl⟩;refine eK ?_;refine AW rfl rfl rfl ?_;rotate_left;refine eK ?_;refine AQ rfl (fun i=>?_) (fun i=>?_);refine eK ?_;refine CX rfl rfl rfl (fun j=>?_) (fun j=>?_);refine eK ?_;refine cC rfl (C6 _ _) ?_;rintro _ t ⟨⟨⟩,rfl⟩;refine eK ?_;refine AW rfl rfl rfl ?_;rotate_left;refine eK ?_;refine cC rfl (C6 _ _) ?_;rintro _ u ⟨⟨⟩,rfl⟩;refine eK ?_;refine AW rfl rfl rfl ?_;rotate_left;refine eK ?_;refine AQ rfl (fun l=>?_) (fun l=>?_)
  refine eK ?_;refine CX rfl rfl rfl (fun m=>?_) (fun m=>?_);refine eK ?_;refine cC rfl (C6 _ _) ?_;rintro _ v ⟨⟨⟩,rfl⟩;refine eK ?_;refine AW rfl rfl rfl ?_;rotate_left;refine eK ?_;refine cC rfl (C6 _ _) ?_;rintro _ z ⟨⟨⟩,rfl⟩;refine eK ?_;refine AW rfl rfl rfl ?_;rotate_left;refine eK ?_;refine AW rfl rfl rfl ?_;rotate_left
 all_goals (refine ⟨?_,rfl⟩;unfold Gg;simp [*])
structure VD where
 name:List UInt8
 kind:Int
 len:Int
structure PD where
 name:List UInt8
 params:List VD
 body:Nd
structure PG where
 vars:List VD
 procs:List PD
 main:Nd
def Er (l:List VD) (s:List UInt8):Option VD:=l.reverse.find? (fun v=>decide (v.name=s))
def E0 (l:List VD) (s:List UInt8):Int:=if (Er l s).isSome then 22 else 0
def Fm (l:List VD) (s:List UInt8) (k:Int):Int:=match Er l s with
 | none=>6
 | some v=>if v.kind=k then 0 else 7
def Cp (ps:List PD) (s:List UInt8):Option Nat:=ps.findIdx? (fun p=>decide (p.name=s))
def MW (ps:List PD) (s:List UInt8) (m:Nat):Int:=match Cp ps s with
 | none=>6
 | some i=>if m=((ps[i]?.map fun p=>p.params.length).getD 0) then 0 else 7
def Cl (ps:List PD) (v:List VD) (k:Int) (s:List UInt8) (m:Nat):Int:=
 if k=2 then Fm v s 1 else if k=3 then Fm v s 2 else if k=4∨k=5∨k=44∨k=45 then Fm v s 3
 else if k=54∨k=55 then E0 v s else if k=50∨k=51 then MW ps s m else 0
def MX (ps:List PD) (v:List VD) (s:List UInt8) (m i:Nat) (x:List UInt8):Int:=match Er v x with
 | none=>6
 | some d=>match (Cp ps s).bind (ps[·]?) with
  | none=>0
  | some p=>if m≠p.params.length then 0 else match p.params[i]? with
   | none=>0
   | some q=>if d.kind≠q.kind∨d.len≠q.len then 7 else 0
def Cq (k:Int) (s:List UInt8) (i:Nat) (v:List VD):List VD:=
 if k=54∧i=1 then v++[⟨s,1,0⟩] else if k=55∧i=0 then v++[⟨s,3,0⟩] else v
def Mb (e:Int):Nat:=if e=0 then 0 else 1
def FG (ps:List PD) (v:List VD) (s:List UInt8) (m:Nat):Nat→List Nd→Nat
 | _,[]=>0
 | i,t::r=>Mb (MX ps v s m i t.name)+FG ps v s m (i+1) r
mutual
def Nd.flt (ps:List PD) (v:List VD):Nd→Nat
 | .mk k _ s l=>Mb (Cl ps v k s l.length)+if k=50∨k=51 then FG ps v s l.length 0 l else CY ps v k s 0 l
def CY (ps:List PD) (v:List VD) (k:Int) (s:List UInt8):Nat→List Nd→Nat
 | _,[]=>0
 | i,t::r=>t.flt ps (Cq k s i v)+CY ps v k s (i+1) r
end
def Cz:List VD→List VD→Nat
 | _,[]=>0
 | acc,v::r=>Mb (E0 acc v.name)+Cz (acc++[v]) r
def DX (ps:List PD):Nat→List PD→Nat
 | _,[]=>0
 | i,p::r=>(if (Cp ps p.name).getD i<i then 1 else 0)+Cz [] p.params+p.body.flt ps p.params+DX ps (i+1) r
def PG.flt (g:PG):Nat:=Cz [] g.vars+DX g.procs 0 g.procs+g.main.flt g.procs g.vars
def Fo (c:UInt8):Bool:=decide (97≤c.toNat)&&decide (c.toNat≤122)
def De (c:UInt8):Bool:=decide (48≤c.toNat)&&decide (c.toNat≤57)
def Hg (c:UInt8):Bool:=decide (c.toNat=32)||decide (c.toNat=9)||decide (c.toNat=13)||decide (c.toNat=10)
def Ip (c:UInt8):Bool:=Fo c||De c
def MY (c:UInt8):Bool:= !decide (c.toNat=10)
def GE (p:UInt8→Bool) (s:List UInt8):Nat:=(s.takeWhile p).length
def keywords:List (List UInt8):=[[105,110,116],[97,114,114,97,121],[115,116,97,99,107],[112,114,111,99],[109,97,105,110],[112,117,115,104],[112,111,112],[114,101,97,100],[117,110,114,101,97,100],[119,114,105,116,101],[117,110,119,114,105,116,101],[99,97,108,108],[117,110,99,97,108,108],[105,102],[101,108,115,101],[102,105],[102,114,111,109],[108,111,111,112],[117,110,116,105,108],[108,111,99,97,108],[100,101,108,111,99,97,108],[116,111,112],[115,105,122,101]]
def FH (s:List UInt8):Bool:=keywords.contains s
def pairs:List (List UInt8):=[[58,61],[43,61],[45,61],[94,61],[61,61],[33,61],[60,61],[62,61],[38,38],[124,124]]
def singles:List UInt8:=[43,45,42,47,37,38,124,94,33,61,60,62,40,41,123,125,91,93,59,44]
def G0 (s:List UInt8):Nat:=
 if List.isPrefixOf [60,61,62] s then 3 else if pairs.contains (s.take 2) then 2 else if (s.head?.map (singles.contains ·)).getD false then 1 else 0
def Bh:List UInt8→Nat×Nat
 | []=>(3,0)
 | c::r=>if Fo c then (1,GE Ip (c::r)) else if De c then (2,GE De (c::r)) else if Hg c then (4,GE Hg (c::r)) else if c=35 then (5,GE MY (c::r)) else (3,G0 (c::r))
def CA (s:List UInt8):Bool:= !s.isEmpty&&decide (s.length≤16)&&((Bh s).1==1)&&((Bh s).2==s.length) && !FH s
def DH (k:Int):Int:=
 if k=23 then 1 else if k=22 then 2 else if k=14 then 3 else if k=15 then 4 else if k=13 then 5
 else if 16≤k∧k≤21 then 6 else if k=8∨k=9 then 7 else if 10≤k∧k≤12 then 8 else if k=6∨k=7 then 9 else 0
def symbols:List (List UInt8):=[[],[],[],[],[],[],[45],[33],[43],[45],[42],[47],[37],[38],[124],[94],[61,61],[33,61],[60],[60,61],[62],[62,61],[38,38],[124,124],[],[],[],[],[],[],[],[],[],[],[],[],[],[],[],[],[43,61],[45,61],[94,61]]
def Fp (k:Int):List UInt8:=symbols.getD k.toNat []
def Sh (k:Int):Bool:=decide (8≤k)&&decide (k≤23)
def Cr (n:Int) (s:List UInt8):Bool:=n==0&&CA s
def plain (n:Int) (s:List UInt8):Bool:=n==0&&s.isEmpty
def Nd.isExpr:Nd→Bool
 | .mk k n s l=>
  if k=1 then decide (0≤n)&&s.isEmpty&&l.isEmpty
  else if k=2∨k=4∨k=5 then Cr n s&&l.isEmpty
  else if k=3 then Cr n s&&match l with|[x]=>x.isExpr|_=>false
  else if k=6∨k=7 then plain n s&&match l with|[x]=>x.isExpr|_=>false
  else if 8≤k∧k≤23 then plain n s&&match l with|[x,y]=>x.isExpr&&y.isExpr|_=>false
  else false
def Nd.isPlace (t:Nd):Bool:=(t.kind==2||t.kind==3)&&t.isExpr
def Nd.isVar (t:Nd):Bool:=t.kind==2&&t.isExpr
mutual
def Nd.isStmt:Nd→Bool
 | .mk k n s l=>
  if k=40∨k=41∨k=42∨k=56 then plain n s&&match l with|[x,y]=>x.isPlace&&y.isExpr|_=>false
  else if k=43 then plain n s&&match l with|[x,y]=>x.isPlace&&y.isPlace|_=>false
  else if k=44∨k=45 then Cr n s&&match l with|[x]=>x.isPlace|_=>false
  else if 46≤k∧k≤49 then plain n s&&match l with|[x]=>x.isPlace|_=>false
  else if k=50∨k=51 then Cr n s&&decide (l.length≤8)&&l.all Nd.isVar
  else if k=52∨k=53 then plain n s&&match l with|[x,y,z,u]=>x.isExpr&&y.isBlock&&z.isBlock&&u.isExpr|_=>false
  else if k=54 then Cr n s&&match l with|[x,y,z]=>x.isExpr&&y.isBlock&&z.isExpr|_=>false
  else if k=55 then Cr n s&&match l with|[x]=>x.isBlock|_=>false
  else false
def Nd.isBlock:Nd→Bool
 | .mk k n s l=>k==57&&plain n s&&D2 l
def D2:List Nd→Bool
 | []=>true
 | t::r=>t.isStmt&&D2 r
end
def Vk (a k:Int):Bool:=Sh a&&decide (DH a<DH k)
def Vl (a k:Int):Bool:=Sh a&&decide (DH a≤DH k)
def wrap (s:List UInt8) (b:Bool):List UInt8:=if b then [40]++s++[41] else s
def Nd.text:Nd→List UInt8
 | .mk k n s l=>
  if k=1 then Lib.itoa n else if k=2 then s
  else if k=3 then match l with|[x]=>s++[91]++x.text++[93]|_=>[]
  else if k=4 then [116,111,112,40]++s++[41] else if k=5 then [115,105,122,101,40]++s++[41]
  else if k=6∨k=7 then match l with|[x]=>Fp k++wrap x.text (Sh x.kind)|_=>[]
  else match l with
   | [x,y]=>wrap x.text (Vk x.kind k)++[32]++Fp k++[32]++wrap y.text (Vl y.kind k)
   | _=>[]
inductive StmtSh:Nd→Prop where
 | upd {k:Int} {x y:Nd}:(k=40∨k=41∨k=42∨k=56)→x.isPlace=true→y.isExpr=true→StmtSh (.mk k 0 [] [x,y])
 | swap {x y:Nd}:x.isPlace=true→y.isPlace=true→StmtSh (.mk 43 0 [] [x,y])
 | stack {k:Int} {s:List UInt8} {x:Nd}:(k=44∨k=45)→CA s=true→x.isPlace=true→StmtSh (.mk k 0 s [x])
 | tape {k:Int} {x:Nd}:(k=46∨k=47∨k=48∨k=49)→x.isPlace=true→StmtSh (.mk k 0 [] [x])
 | call {k:Int} {s:List UInt8} {l:List Nd}:(k=50∨k=51)→CA s=true→l.length≤8→l.all Nd.isVar=true→StmtSh (.mk k 0 s l)
 | branch {k:Int} {x y z u:Nd}:(k=52∨k=53)→x.isExpr=true→y.isBlock=true→z.isBlock=true→u.isExpr=true→StmtSh (.mk k 0 [] [x,y,z,u])
 | local_ {s:List UInt8} {x y z:Nd}:CA s=true→x.isExpr=true→y.isBlock=true→z.isExpr=true→StmtSh (.mk 54 0 s [x,y,z])
 | lstack {s:List UInt8} {x:Nd}:CA s=true→x.isBlock=true→StmtSh (.mk 55 0 s [x])
theorem Dh {t:Nd} (h:t.isStmt=true):StmtSh t:=by
 obtain ⟨k,n,s,l⟩:=t
 unfold Nd.isStmt at h
 by_cases c1:k=40∨k=41∨k=42∨k=56
 · rw [if_pos c1] at h
   simp only [Bool.and_eq_true,plain,beq_iff_eq,List.isEmpty_iff] at h;obtain ⟨⟨rfl,rfl⟩,h2⟩:=h
   split at h2
   · simp only [Bool.and_eq_true] at h2
     exact .upd c1 h2.1 h2.2
   · cases h2
 rw [if_neg c1] at h
 by_cases c2:k=43
 · rw [if_pos c2] at h
   simp only [Bool.and_eq_true,plain,beq_iff_eq,List.isEmpty_iff] at h;obtain ⟨⟨rfl,rfl⟩,h2⟩:=h;subst c2
   split at h2
   · simp only [Bool.and_eq_true] at h2
     exact .swap h2.1 h2.2
   · cases h2
 rw [if_neg c2] at h
 by_cases c3:k=44∨k=45
 · rw [if_pos c3] at h
   simp only [Bool.and_eq_true,Cr,beq_iff_eq] at h;obtain ⟨⟨rfl,hn⟩,h2⟩:=h
   split at h2
   · exact .stack c3 hn h2
   · cases h2
 rw [if_neg c3] at h
 by_cases c4:46≤k∧k≤49
 · rw [if_pos c4] at h
   simp only [Bool.and_eq_true,plain,beq_iff_eq,List.isEmpty_iff] at h;obtain ⟨⟨rfl,rfl⟩,h2⟩:=h
   split at h2
   · exact .tape (by omega) h2
   · cases h2
 rw [if_neg c4] at h
 by_cases c5:k=50∨k=51
 · rw [if_pos c5] at h
   simp only [Bool.and_eq_true,Cr,beq_iff_eq,decide_eq_true_eq] at h;obtain ⟨⟨⟨rfl,hn⟩,h1⟩,h2⟩:=h
   exact .call c5 hn h1 h2
 rw [if_neg c5] at h
 by_cases c6:k=52∨k=53
 · rw [if_pos c6] at h
   simp only [Bool.and_eq_true,plain,beq_iff_eq,List.isEmpty_iff] at h;obtain ⟨⟨rfl,rfl⟩,h2⟩:=h
   split at h2
   · simp only [Bool.and_eq_true] at h2
     exact .branch c6 h2.1.1.1 h2.1.1.2 h2.1.2 h2.2
   · cases h2
 rw [if_neg c6] at h
 by_cases c7:k=54
 · rw [if_pos c7] at h
   simp only [Bool.and_eq_true,Cr,beq_iff_eq] at h;obtain ⟨⟨rfl,hn⟩,h2⟩:=h;subst c7
   split at h2
   · simp only [Bool.and_eq_true] at h2
     exact .local_ hn h2.1.1 h2.1.2 h2.2
   · cases h2
 rw [if_neg c7] at h
 by_cases c8:k=55
 · rw [if_pos c8] at h
   simp only [Bool.and_eq_true,Cr,beq_iff_eq] at h;obtain ⟨⟨rfl,hn⟩,h2⟩:=h;subst c8
   split at h2
   · exact .lstack hn h2
   · cases h2
 rw [if_neg c8] at h
 cases h
theorem D5 {t:Nd} (h:StmtSh t):t.isStmt=true:=by
 cases h with
 | upd hk hx hy=>unfold Nd.isStmt;rw [if_pos hk];simp [plain,hx,hy]
 | swap hx hy=>unfold Nd.isStmt;simp [plain,hx,hy]
 | stack hk hs hx=>rcases hk with rfl|rfl<;>(unfold Nd.isStmt;simp [Cr,hs,hx])
 | tape hk hx=>rcases hk with rfl|rfl|rfl|rfl<;>(unfold Nd.isStmt;simp [plain,hx])
 | call hk hs hl ha=>rcases hk with rfl|rfl<;>(unfold Nd.isStmt;simp only [Cr,hs,ha];simp [hl])
 | branch hk hx hy hz hu=>rcases hk with rfl|rfl<;>(unfold Nd.isStmt;simp [plain,hx,hy,hz,hu])
 | local_ hs hx hy hz=>unfold Nd.isStmt;simp [Cr,hs,hx,hy,hz]
 | lstack hs hx=>unfold Nd.isStmt;simp [Cr,hs,hx]
theorem I2 {t:Nd} (h:t.isExpr=true):1≤t.kind∧t.kind≤23:=by
 obtain ⟨k,n,s,l⟩:=t
 unfold Nd.isExpr at h
 simp only [Nd.kind]
 by_cases c1:k=1
 · omega
 rw [if_neg c1] at h
 by_cases c2:k=2∨k=4∨k=5
 · omega
 rw [if_neg c2] at h
 by_cases c3:k=3
 · omega
 rw [if_neg c3] at h
 by_cases c4:k=6∨k=7
 · omega
 rw [if_neg c4] at h
 by_cases c5:8≤k∧k≤23
 · omega
 rw [if_neg c5] at h
 cases h
theorem Bn {t:Nd} (h:t.isPlace=true):t.isExpr=true:=by
 simp only [Nd.isPlace,Bool.and_eq_true] at h;exact h.2
theorem Ht {t:Nd} (h:t.isVar=true):t.isExpr=true:=by
 simp only [Nd.isVar,Bool.and_eq_true] at h;exact h.2
theorem Lu {t:Nd} (h:t.isStmt=true):40≤t.kind∧t.kind≤56:=by
 cases Dh h<;>simp only [Nd.kind]<;>omega
theorem EB {t:Nd} (h:t.isBlock=true):t = .mk 57 0 [] t.kids∧D2 t.kids=true:=by
 obtain ⟨k,n,s,l⟩:=t
 unfold Nd.isBlock at h
 simp only [Bool.and_eq_true,plain,beq_iff_eq,List.isEmpty_iff] at h;obtain ⟨⟨rfl,rfl,rfl⟩,h2⟩:=h
 exact ⟨rfl,h2⟩
theorem rowStmt_iff : ∀ {l:List Nd},D2 l=true ↔ ∀x∈l,x.isStmt=true
 | []=>by simp [D2]
 | t::r=>by simp [D2,rowStmt_iff (l:=r)]
structure Tok where
 kind:Int
 text:List UInt8
 pos:Int
def Tok.zero:Tok:=⟨0,[],0⟩
structure PS where
 at_:Nat
 off:Int
 err:Int
section
variable (ts:List Tok) (n:Int)
def AP (σ:PS):Tok:=if σ.err≠0∨σ.at_=ts.length then Tok.zero else ts.getD σ.at_ Tok.zero
def C2 (σ:PS) (off e:Int):PS:=if σ.err=0 then ⟨σ.at_,off,e⟩ else σ
def DI (σ:PS):PS:=if σ.at_<ts.length then C2 σ (ts.getD σ.at_ Tok.zero).pos 3 else C2 σ n 4
def AD (σ:PS):PS:=⟨σ.at_+1,σ.off,σ.err⟩
def Dm (σ:PS) (t:List UInt8):Bool:=decide ((AP ts σ).text=t)
def DQ (σ:PS) (t:List UInt8):PS:=if Dm ts σ t then AD σ else σ
def A2 (σ:PS) (t:List UInt8):PS:=if Dm ts σ t then AD σ else DI ts n σ
def BM (σ:PS):List UInt8×PS:=if CA (AP ts σ).text then ((AP ts σ).text,AD σ) else ([],DI ts n σ)
def B7 (s:List UInt8):Nat:=s.foldl (fun a c=>a*10+(c.toNat-48)) 0
def CK (least most:Int) (σ:PS):Int×PS:=
 if (AP ts σ).kind=2 then
  if (B7 (AP ts σ).text:Int)≤9223372036854775807∧least≤(B7 (AP ts σ).text:Int)∧(B7 (AP ts σ).text:Int)≤most then ((B7 (AP ts σ).text:Int),AD σ)
  else (0,C2 (AD σ) (AP ts σ).pos 2)
 else (0,DI ts n σ)
def Lv (t:List UInt8):Option Int:=[8,9,10,11,12,13,14,15,16,17,18,19,20,21,22,23].find? (fun k=>decide (Fp k=t))
mutual
def Cm:Nat→Int→PS→Nd×PS
 | 0,_,σ=>(.mk 0 0 [] [],σ)
 | k+1,lv,σ=>Di k lv (BO k σ).1 (BO k σ).2
def Di:Nat→Int→Nd→PS→Nd×PS
 | 0,_,x,σ=>(x,σ)
 | k+1,lv,x,σ=>match Lv (AP ts σ).text with
  | none=>(x,σ)
  | some op=>if DH op<lv then (x,σ) else
   Di k lv (.mk op 0 [] [x,(Cm k (DH op+1) (AD σ)).1]) (Cm k (DH op+1) (AD σ)).2
def BO:Nat→PS→Nd×PS
 | 0,σ=>(.mk 0 0 [] [],σ)
 | k+1,σ=>
  if Dm ts σ [45] then (.mk 6 0 [] [(BO k (AD σ)).1],(BO k (AD σ)).2)
  else if Dm ts σ [33] then (.mk 7 0 [] [(BO k (AD σ)).1],(BO k (AD σ)).2)
  else BY k σ
def BY:Nat→PS→Nd×PS
 | 0,σ=>(.mk 0 0 [] [],σ)
 | k+1,σ=>
  if (AP ts σ).kind=2 then (.mk 1 (CK ts n 0 9223372036854775807 σ).1 [] [],(CK ts n 0 9223372036854775807 σ).2)
  else if Dm ts σ [116,111,112] then (.mk 4 0 (BM ts n (A2 ts n (AD σ) [40])).1 [],A2 ts n (BM ts n (A2 ts n (AD σ) [40])).2 [41])
  else if Dm ts σ [115,105,122,101] then (.mk 5 0 (BM ts n (A2 ts n (AD σ) [40])).1 [],A2 ts n (BM ts n (A2 ts n (AD σ) [40])).2 [41])
  else if Dm ts σ [40] then ((Cm k 1 (AD σ)).1,A2 ts n (Cm k 1 (AD σ)).2 [41])
  else Cv k σ
def Cv:Nat→PS→Nd×PS
 | 0,σ=>(.mk 0 0 [] [],σ)
 | k+1,σ=>
  if Dm ts (BM ts n σ).2 [91] then (.mk 3 0 (BM ts n σ).1 [(Cm k 1 (AD (BM ts n σ).2)).1],A2 ts n (Cm k 1 (AD (BM ts n σ).2)).2 [93])
  else (.mk 2 0 (BM ts n σ).1 [],(BM ts n σ).2)
end
def Ei (σ:PS):Nd×PS:=(.mk 2 0 (BM ts n σ).1 [],(BM ts n σ).2)
def DU:Nat→List Nd→PS→List Nd×PS
 | 0,acc,σ=>(acc,σ)
 | k+1,acc,σ=>
  if Dm ts σ [44] then
   DU k (acc++[(Ei ts n (if acc.length=8∧CA (AP ts (AD σ)).text=true then C2 (AD σ) (AP ts (AD σ)).pos 5 else AD σ)).1])
    (Ei ts n (if acc.length=8∧CA (AP ts (AD σ)).text=true then C2 (AD σ) (AP ts (AD σ)).pos 5 else AD σ)).2
  else (acc,σ)
def Iq (k:Nat) (kind:Int) (σ:PS):Nd×PS:=
 let m:=BM ts n (AD σ)
 let σ1:=A2 ts n m.2 [40]
 if Dm ts σ1 [41] then (.mk kind 0 m.1 [],AD σ1)
 else
  let a:=Ei ts n σ1
  let r:=DU ts n k [a.1] a.2
  (.mk kind 0 m.1 r.1,A2 ts n r.2 [41])
def E6 (t:List UInt8):Int:=if t=[43,61] then 40 else if t=[45,61] then 41 else if t=[94,61] then 42 else if t=[58,61] then 56 else 0
def FI (k:Nat) (σ:PS):Nd×PS:=
 let p:=Cv ts n k σ
 if Dm ts p.2 [60,61,62] then (.mk 43 0 [] [p.1,(Cv ts n k (AD p.2)).1],(Cv ts n k (AD p.2)).2)
 else if E6 (AP ts p.2).text=0 then (.mk 0 0 [] [],DI ts n p.2)
 else (.mk (E6 (AP ts p.2).text) 0 [] [p.1,(Cm ts n k 1 (AD p.2)).1],(Cm ts n k 1 (AD p.2)).2)
def GF (k:Nat) (kind:Int) (σ:PS):Nd×PS:=
 let p:=Cv ts n k (AD σ)
 let m:=BM ts n (A2 ts n p.2 [44])
 (.mk kind 0 m.1 [p.1],m.2)
def Hh (k:Nat) (kind:Int) (σ:PS):Nd×PS:=(.mk kind 0 [] [(Cv ts n k (AD σ)).1],(Cv ts n k (AD σ)).2)
mutual
def CD:Nat→PS→Nd×PS
 | 0,σ=>(.mk 0 0 [] [],σ)
 | k+1,σ=>
  if (AP ts σ).text=[112,117,115,104] then GF ts n k 44 σ else if (AP ts σ).text=[112,111,112] then GF ts n k 45 σ
  else if (AP ts σ).text=[114,101,97,100] then Hh ts n k 46 σ else if (AP ts σ).text=[117,110,114,101,97,100] then Hh ts n k 47 σ else if (AP ts σ).text=[119,114,105,116,101] then Hh ts n k 48 σ else if (AP ts σ).text=[117,110,119,114,105,116,101] then Hh ts n k 49 σ
  else if (AP ts σ).text=[99,97,108,108] then Iq ts n k 50 σ else if (AP ts σ).text=[117,110,99,97,108,108] then Iq ts n k 51 σ
  else if (AP ts σ).text=[105,102] then CM k 52 [101,108,115,101] [102,105] σ else if (AP ts σ).text=[102,114,111,109] then CM k 53 [108,111,111,112] [117,110,116,105,108] σ
  else if (AP ts σ).text=[108,111,99,97,108] then Fq k σ else FI ts n k σ
def CM:Nat→Int→List UInt8→List UInt8→PS→Nd×PS
 | 0,_,_,_,σ=>(.mk 0 0 [] [],σ)
 | k+1,kind,mid,last,σ=>
  let a:=Cm ts n k 1 (AD σ)
  let x:=Es k a.2
  let y:=Es k (A2 ts n x.2 mid)
  let e:=Cm ts n k 1 (A2 ts n y.2 last)
  (.mk kind 0 [] [a.1,x.1,y.1,e.1],e.2)
def Fq:Nat→PS→Nd×PS
 | 0,σ=>(.mk 0 0 [] [],σ)
 | k+1,σ=>
  if Dm ts (AD σ) [115,116,97,99,107] then
   let m:=BM ts n (AD (AD σ))
   let x:=Es k m.2
   (.mk 55 0 m.1 [x.1],x.2)
  else
   let m:=BM ts n (AD σ)
   let a:=Cm ts n k 1 (A2 ts n m.2 [61])
   let x:=Es k a.2
   let e:=Cm ts n k 1 (A2 ts n x.2 [100,101,108,111,99,97,108])
   (.mk 54 0 m.1 [a.1,x.1,e.1],e.2)
def Es:Nat→PS→Nd×PS
 | 0,σ=>(.mk 57 0 [] [],σ)
 | k+1,σ=>let r:=Dv k [] (A2 ts n σ [123]);(.mk 57 0 [] r.1,r.2)
def Dv:Nat→List Nd→PS→List Nd×PS
 | 0,acc,σ=>(acc,σ)
 | k+1,acc,σ=>
  if σ.err≠0 then (acc,σ)
  else if Dm ts σ [125] then (acc,AD σ)
  else Dv k (acc++[(CD k σ).1]) (A2 ts n (CD k σ).2 [59])
end
end
mutual
def Nd.depth:Nd→Int
 | .mk _ _ _ l=>Bi l+1
def Bi:List Nd→Int
 | []=>0
 | t::r=>max t.depth (Bi r)
end
section
variable (ts:List Tok) (n:Int)
def DJ (x:Nd) (off:Int) (σ:PS):PS:=if σ.err≠0 then σ else if 80<x.depth then C2 σ off 19 else if 2000<x.size then C2 σ off 5 else σ
def C7:Nat→List Nd→PS→List Nd×PS
 | 0,acc,σ=>(acc,σ)
 | k+1,acc,σ=>if σ.err=0∧σ.at_<ts.length then C7 k (acc++[(CD ts n k σ).1]) (A2 ts n (CD ts n k σ).2 [59]) else (acc,σ)
end
def E4:Nat→List UInt8→Nat→List Tok→List Tok×Option Nat
 | 0,_,_,acc=>(acc,none)
 | k+1,s,p,acc=>if p<s.length then
  if (Bh (s.drop p)).2=0 then ([],some p)
  else E4 k s (p+(Bh (s.drop p)).2) (acc++[⟨((Bh (s.drop p)).1:Nat),(s.drop p).take (Bh (s.drop p)).2,(p:Int)⟩])
  else (acc,none)
def GG (s:List UInt8):List Tok×Int×Int:=
 if 65536<s.length then ([],0,5) else match E4 (s.length+1) s 0 [] with
  | (l,none)=>(l,0,0)
  | (_,some p)=>([],(p:Int),3)
def D6 (l:List Tok):List Tok:=l.filter fun t=>decide (t.kind≠4)&&decide (t.kind≠5)
def DY (s:List UInt8):List Tok×PS:=(D6 (GG s).1,⟨0,(GG s).2.1,(GG s).2.2⟩)
def GH (s:List UInt8):Nat:=4*s.length+20
def Gi:Nd:=.mk 0 0 [] []
def EC (s:List UInt8):Nd×Int×Int:=
 let ts:=(DY s).1
 let r:=C7 ts s.length (GH s) [] (DY s).2
 let x:=Nd.mk 57 0 [] r.1
 let σ:=DJ x 0 r.2
 if σ.err≠0 then (Gi,σ.off,σ.err) else (x,0,0)
def BQ (k:Int):Int:=
 if k=40 then 41 else if k=41 then 40 else if k=44 then 45 else if k=45 then 44 else if k=46 then 47 else if k=47 then 46
 else if k=48 then 49 else if k=49 then 48 else if k=50 then 51 else if k=51 then 50 else k
def FZ (l:List Nd):List Nd:=(l.set 0 (l.getD (l.length-1) (.mk 0 0 [] []))).set (l.length-1) (l.getD 0 (.mk 0 0 [] []))
mutual
def Nd.inv (q:Bool):Nd→Nd
 | .mk k n s l=>
  if k=57 then .mk k n s (B4 q l).reverse
  else if k=52∨k=53∨k=54 then .mk k n s (FZ (Dz q l))
  else if k=50∨k=51 then .mk (if q then k else BQ k) n s (Dz q l)
  else .mk (BQ k) n s (Dz q l)
def B4 (q:Bool):List Nd→List Nd
 | []=>[]
 | t::r=>t.inv q::B4 q r
def Dz (q:Bool):List Nd→List Nd
 | []=>[]
 | t::r=>(if t.kind=57 then t.inv q else t)::Dz q r
end
theorem J2 (q:Bool) : ∀l:List Nd,(B4 q l).length=l.length
 | []=>rfl
 | t::r=>by simp only [B4,List.length_cons,J2 q r]
theorem J3 (q:Bool) : ∀l m:List Nd,B4 q (l++m)=B4 q l++B4 q m
 | [],m=>rfl
 | t::r,m=>by simp only [B4,List.cons_append,J3 q r m]
theorem Hu (q:Bool) : ∀l:List Nd,B4 q l.reverse=(B4 q l).reverse
 | []=>rfl
 | t::r=>by simp only [B4,List.reverse_cons,J3,Hu q r]
theorem Du (q:Bool) {t:Nd} (h:t.isExpr=true):(if t.kind=57 then t.inv q else t)=t:=by
 have:=I2 h;rw [if_neg (by omega)]
theorem Gj (q:Bool) {t:Nd} (h:t.isBlock=true):(if t.kind=57 then t.inv q else t)=t.inv q:=by
 obtain ⟨e,-⟩:=EB h
 rw [e];rfl
theorem Lw (q:Bool) : ∀l:List Nd,l.all Nd.isVar=true→Dz q l=l
 | [],_=>rfl
 | t::r,h=>by
  simp only [List.all_cons,Bool.and_eq_true] at h;simp only [Dz,Du q (Ht h.1),Lw q r h.2]
theorem Vm (x y z:Nd):FZ [x,y,z]=[z,y,x]:=rfl
theorem Vn (x y z u:Nd):FZ [x,y,z,u]=[u,y,z,x]:=rfl
section
variable (q:Bool)
theorem JK {k:Int} {x y:Nd} (hk:k=40∨k=41∨k=42∨k=56) (hx:x.isExpr=true) (hy:y.isExpr=true):(Nd.mk k 0 [] [x,y]).inv q = .mk (BQ k) 0 [] [x,y]:=by
 conv=>lhs;unfold Nd.inv
 rw [if_neg (by omega),if_neg (by omega),if_neg (by omega)];simp only [Dz,Du q hx,Du q hy]
theorem Ir {x y:Nd} (hx:x.isExpr=true) (hy:y.isExpr=true):(Nd.mk 43 0 [] [x,y]).inv q = .mk 43 0 [] [x,y]:=by
 conv=>lhs;unfold Nd.inv
 rw [if_neg (by omega),if_neg (by omega),if_neg (by omega)]
 simp only [Dz,Du q hx,Du q hy];rfl
theorem FJ {k:Int} {s:List UInt8} {x:Nd} (hk:44≤k∧k≤49) (hx:x.isExpr=true):(Nd.mk k 0 s [x]).inv q = .mk (BQ k) 0 s [x]:=by
 conv=>lhs;unfold Nd.inv
 rw [if_neg (by omega),if_neg (by omega),if_neg (by omega)];simp only [Dz,Du q hx]
theorem Is {k:Int} {s:List UInt8} {l:List Nd} (hk:k=50∨k=51) (hl:l.all Nd.isVar=true):(Nd.mk k 0 s l).inv q = .mk (if q then k else BQ k) 0 s l:=by
 conv=>lhs;unfold Nd.inv
 rw [if_neg (by omega),if_neg (by omega),if_pos hk,Lw q l hl]
theorem Gk {k:Int} {x y z u:Nd} (hk:k=52∨k=53) (hx:x.isExpr=true) (hy:y.isBlock=true) (hz:z.isBlock=true) (hu:u.isExpr=true):(Nd.mk k 0 [] [x,y,z,u]).inv q = .mk k 0 [] [u,y.inv q,z.inv q,x]:=by
 conv=>lhs;unfold Nd.inv
 rw [if_neg (by omega),if_pos (by omega)];simp only [Dz,Du q hx,Du q hu,Gj q hy,Gj q hz,Vn]
theorem G1 {s:List UInt8} {x y z:Nd} (hx:x.isExpr=true) (hy:y.isBlock=true) (hz:z.isExpr=true):(Nd.mk 54 0 s [x,y,z]).inv q = .mk 54 0 s [z,y.inv q,x]:=by
 conv=>lhs;unfold Nd.inv
 rw [if_neg (by omega),if_pos (by omega)];simp only [Dz,Du q hx,Du q hz,Gj q hy,Vm]
theorem Gl {s:List UInt8} {x:Nd} (hx:x.isBlock=true):(Nd.mk 55 0 s [x]).inv q = .mk 55 0 s [x.inv q]:=by
 conv=>lhs;unfold Nd.inv
 rw [if_neg (by omega),if_neg (by omega),if_neg (by omega)]
 simp only [Dz,Gj q hx];rfl
theorem D8 (l:List Nd):(Nd.mk 57 0 [] l).inv q = .mk 57 0 [] (B4 q l).reverse:=by
 conv=>lhs;unfold Nd.inv
 rw [if_pos rfl]
end
theorem ED {k:Int}:BQ (BQ k)=k:=by
 unfold BQ
 by_cases h1:k=40;· subst h1;rfl
 by_cases h2:k=41;· subst h2;rfl
 by_cases h3:k=44;· subst h3;rfl
 by_cases h4:k=45;· subst h4;rfl
 by_cases h5:k=46;· subst h5;rfl
 by_cases h6:k=47;· subst h6;rfl
 by_cases h7:k=48;· subst h7;rfl
 by_cases h8:k=49;· subst h8;rfl
 by_cases h9:k=50;· subst h9;rfl
 by_cases h10:k=51;· subst h10;rfl
 simp only [h1,h2,h3,h4,h5,h6,h7,h8,h9,h10,if_false]
theorem J4 {k:Int} (h:k=40∨k=41∨k=42∨k=56):BQ k=40∨BQ k=41∨BQ k=42∨BQ k=56:=by rcases h with rfl|rfl|rfl|rfl<;>decide
theorem Lx {k:Int} (h:k=50∨k=51):BQ k=50∨BQ k=51:=by rcases h with rfl|rfl<;>decide
theorem Hv {k:Int} (h:k=44∨k=45):BQ k=44∨BQ k=45:=by rcases h with rfl|rfl<;>decide
theorem I3 {k:Int} (h:k=46∨k=47∨k=48∨k=49):BQ k=46∨BQ k=47∨BQ k=48∨BQ k=49:=by rcases h with rfl|rfl|rfl|rfl<;>decide
structure InvOk (q:Bool) (t:Nd):Prop where
 st:t.isStmt=true→(t.inv q).isStmt=true
 bl:t.isBlock=true→(t.inv q).isBlock=true
 back:(t.inv q).inv q=t
 size:(t.inv q).size=t.size
 depth:(t.inv q).depth=t.depth
 wf:t.wf→(t.inv q).wf
theorem Ji : ∀l m:List Nd,Au (l++m)=Au l+Au m
 | [],m=>by simp [Au]
 | t::r,m=>by simp only [Au,List.cons_append,Ji r m];omega
theorem Jj : ∀l:List Nd,Au l.reverse=Au l
 | []=>rfl
 | t::r=>by simp only [List.reverse_cons,Ji,Jj r,Au];omega
theorem Gm : ∀l:List Nd,0≤Bi l
 | []=>by simp [Bi]
 | t::r=>by have:=Gm r;simp only [Bi];omega
theorem It : ∀l m:List Nd,Bi (l++m)=max (Bi l) (Bi m)
 | [],m=>by have:=Gm m;simp only [Bi,List.nil_append];omega
 | t::r,m=>by simp only [Bi,List.cons_append,It r m];omega
theorem Iu : ∀l:List Nd,Bi l.reverse=Bi l
 | []=>rfl
 | t::r=>by have:=Gm r;simp only [List.reverse_cons,It,Iu r,Bi];omega
theorem rowWf_iff : ∀ {l:List Nd},Co l ↔ ∀x∈l,x.wf
 | []=>by simp [Co]
 | t::r=>by simp [Co,rowWf_iff (l:=r)]
theorem E7 : ∀ {l:List Nd} {x:Nd},x∈l→x.size≤Au l
 | t::r,x,h=>by
  simp only [Au]
  rcases List.mem_cons.1 h with rfl|h
  · omega
  · have:=E7 h;omega
theorem Si (q:Bool) : ∀l:List Nd,(∀t∈l,InvOk q t)→(∀t∈l,t.isStmt=true)→(∀x∈B4 q l,x.isStmt=true)∧B4 q (B4 q l)=l∧Au (B4 q l)=Au l∧Bi (B4 q l)=Bi l∧(Co l→Co (B4 q l))
 | [],_,_=>⟨by simp [B4],rfl,rfl,rfl,fun h=>h⟩
 | t::r,h,hs=>by
  have ht:=h t (by simp);obtain ⟨i1,i2,i3,i4,i5⟩:=Si q r (fun x hx=>h x (by simp [hx])) (fun x hx=>hs x (by simp [hx]));refine ⟨fun x hx=>?_,?_,?_,?_,fun hw=>?_⟩
  · simp only [B4,List.mem_cons] at hx
    rcases hx with rfl|hx
    · exact ht.st (hs t (by simp))
    · exact i1 x hx
  · simp only [B4,ht.back,i2]
  · simp only [B4,Au,ht.size,i3]
  · simp only [B4,Bi,ht.depth,i4]
  · simp only [B4,Co] at hw ⊢
    exact ⟨ht.wf hw.1,i5 hw.2⟩
theorem Hw {k:Int} (h0:0≤k) (h1:k≤255):0≤BQ k∧BQ k≤255:=by
 unfold BQ
 repeat' split
 all_goals omega
theorem Sj (q:Bool) (N:Nat) : ∀t:Nd,t.size<N→t.isStmt=true∨t.isBlock=true→InvOk q t:=by
 induction N with
 | zero=>intro t h;omega
 | succ N ih=>
  intro t hN h
  by_cases hs:t.isStmt=true
  · have hnb : ∀ {u:Nd},u.isStmt=true → ¬u.isBlock=true:=fun {u} hu hb=>by
     have h1:=Lu hu;obtain ⟨e,-⟩:=EB hb
     rw [e] at h1;simp only [Nd.kind] at h1;omega
    have mk : ∀u v:Nd,u.isStmt=true→u.inv q=v→v.isStmt=true→v.inv q=u→v.size=u.size→v.depth=u.depth→(u.wf→v.wf)→InvOk q u:=fun u v hu e h1 h2 h3 h4 h5=>⟨fun _=>by rw [e];exact h1,fun hb=>absurd hb (hnb hu),by rw [e,h2],by rw [e,h3],by rw [e,h4],by rw [e];exact h5⟩
    cases Dh hs with
    | @upd k x y hk hx hy=>
     have ex:=Bn hx;refine mk _ _ hs (JK q hk ex hy) (D5 (.upd (J4 hk) hx hy)) (by rw [JK q (J4 hk) ex hy,ED]) rfl rfl (fun hw=>?_);have:=Hw hw.1 hw.2.1
     exact ⟨this.1,this.2,hw.2.2⟩
    | @swap x y hx hy=>
     exact mk _ _ hs (Ir q (Bn hx) (Bn hy)) hs (Ir q (Bn hx) (Bn hy)) rfl rfl (fun hw=>hw)
    | @stack k s x hk hn hx=>
     have ex:=Bn hx;refine mk _ _ hs (FJ q (by omega) ex) (D5 (.stack (Hv hk) hn hx)) (by rw [FJ q (by have:=Hv hk;omega) ex,ED]) rfl rfl (fun hw=>?_);have:=Hw hw.1 hw.2.1
     exact ⟨this.1,this.2,hw.2.2⟩
    | @tape k x hk hx=>
     have ex:=Bn hx;refine mk _ _ hs (FJ q (by omega) ex) (D5 (.tape (I3 hk) hx)) (by rw [FJ q (by have:=I3 hk;omega) ex,ED]) rfl rfl (fun hw=>?_);have:=Hw hw.1 hw.2.1
     exact ⟨this.1,this.2,hw.2.2⟩
    | @call k s l hk hn hl ha=>
     have a:(if q then k else BQ k)=50∨(if q then k else BQ k)=51:=by
      cases q
      · exact Lx hk
      · exact hk
     refine mk _ _ hs (Is q hk ha) (D5 (.call a hn hl ha)) ?_ rfl rfl (fun hw=>?_)
     · rw [Is q a ha]
       cases q
       · simp only [Bool.false_eq_true,if_false,ED]
       · simp
     · exact ⟨by omega,by omega,hw.2.2⟩
    | @branch k x y z u hk hx hy hz hu=>
     simp only [Nd.size,Au] at hN;have iy:=ih y (by omega) (Or.inr hy);have iz:=ih z (by omega) (Or.inr hz);refine mk _ _ hs (Gk q hk hx hy hz hu) (D5 (.branch hk hu (iy.bl hy) (iz.bl hz) hx)) (by rw [Gk q hk hu (iy.bl hy) (iz.bl hz) hx,iy.back,iz.back]) ?_ ?_ (fun hw=>?_)
     · simp only [Nd.size,Au,iy.size,iz.size];omega
     · simp only [Nd.depth,Bi,iy.depth,iz.depth];omega
     · obtain ⟨w1,w2,w3,w4,w5,w6,w7⟩:=hw
       exact ⟨w1,w2,w3,w4,w5,w6,w7.2.2.2.1,iy.wf w7.2.1,iz.wf w7.2.2.1,w7.1,trivial⟩
    | @local_ s x y z hn hx hy hz=>
     simp only [Nd.size,Au] at hN;have iy:=ih y (by omega) (Or.inr hy);refine mk _ _ hs (G1 q hx hy hz) (D5 (.local_ hn hz (iy.bl hy) hx)) (by rw [G1 q hz (iy.bl hy) hx,iy.back]) ?_ ?_ (fun hw=>?_)
     · simp only [Nd.size,Au,iy.size];omega
     · simp only [Nd.depth,Bi,iy.depth];omega
     · obtain ⟨w1,w2,w3,w4,w5,w6,w7⟩:=hw
       exact ⟨w1,w2,w3,w4,w5,w6,w7.2.2.1,iy.wf w7.2.1,w7.1,trivial⟩
    | @lstack s x hn hx=>
     simp only [Nd.size,Au] at hN;have ix:=ih x (by omega) (Or.inr hx);refine mk _ _ hs (Gl q hx) (D5 (.lstack hn (ix.bl hx))) (by rw [Gl q (ix.bl hx),ix.back]) ?_ ?_ (fun hw=>?_)
     · simp only [Nd.size,Au,ix.size]
     · simp only [Nd.depth,Bi,ix.depth]
     · obtain ⟨w1,w2,w3,w4,w5,w6,w7⟩:=hw
       exact ⟨w1,w2,w3,w4,w5,w6,ix.wf w7.1,trivial⟩
  · have hb:t.isBlock=true:=h.resolve_left hs
    obtain ⟨e,hr⟩:=EB hb;obtain ⟨k,n,s,l⟩:=t;simp only [Nd.kids,Nd.mk.injEq,and_true] at e;obtain ⟨rfl,rfl,rfl⟩:=e;simp only [Nd.kids] at hr;simp only [Nd.size] at hN;have hst:=rowStmt_iff.1 hr;obtain ⟨i1,i2,i3,i4,i5⟩:=Si q l (fun t ht=>ih t (by have:=E7 ht;omega) (Or.inl (hst t ht))) hst;refine ⟨fun h=>absurd h hs,fun _=>?_,?_,?_,?_,fun hw=>?_⟩
    · rw [D8]
      unfold Nd.isBlock
      rw [rowStmt_iff.2 (fun x hx=>i1 x (List.mem_reverse.1 hx))];rfl
    · rw [D8,D8,Hu,List.reverse_reverse,i2]
    · rw [D8];simp only [Nd.size,Jj,i3]
    · rw [D8];simp only [Nd.depth,Iu,i4]
    · rw [D8]
      obtain ⟨w1,w2,w3,w4,w5,w6,w7⟩:=hw
      exact ⟨w1,w2,w3,w4,w5,by rw [List.length_reverse,J2];exact w6,rowWf_iff.2 (fun x hx=>rowWf_iff.1 (i5 w7) x (List.mem_reverse.1 hx))⟩
mutual
def Nd.calls:Nd→Nd
 | .mk k n s l=>.mk (if k=50∨k=51 then BQ k else k) n s (MZ l)
def MZ:List Nd→List Nd
 | []=>[]
 | t::r=>t.calls::MZ r
end
def Bf (at_:List UInt8→Option (List Int)):Nd→Int×Int
 | .mk k n s l=>
  if k=1 then (n,0)
  else if k=2 then match at_ s with
   | none=>(0,6)
   | some c=>if c.length=1 then (c.getD 0 0,0) else (0,7)
  else if k=3 then match at_ s with
   | none=>(0,6)
   | some c=>match l with
    | [x]=>if (Bf at_ x).2≠0 then (0,(Bf at_ x).2) else if (Bf at_ x).1<0∨(c.length:Int)≤(Bf at_ x).1 then (0,12) else (c.getD (Bf at_ x).1.toNat 0,0)
    | _=>(0,0)
  else if k=4 then match at_ s with
   | none=>(0,6)
   | some c=>if c.length=0 then (0,13) else (c.getD (c.length-1) 0,0)
  else if k=5 then match at_ s with
   | none=>(0,6)
   | some c=>(c.length,0)
  else match l with
   | [x]=>if (Bf at_ x).2≠0 then (0,(Bf at_ x).2) else Gh k (Bf at_ x).1
   | [x,y]=>if (Bf at_ x).2≠0 then (0,(Bf at_ x).2) else if (Bf at_ y).2≠0 then (0,(Bf at_ y).2) else Gg k (Bf at_ x).1 (Bf at_ y).1
   | _=>(0,0)
def BD (at_:List UInt8→Option (List Int)) (t:Nd):Int×Int:=
 if t.kind=2 then (0,0) else match t.kids with
 | x::_=>Bf at_ x
 | []=>(0,0)
def CO (s:List UInt8):List VD→Option Nat
 | []=>none
 | v::r=>match CO s r with
  | some i=>some (i+1)
  | none=>if v.name=s then some 0 else none
structure Frm where
 vars:List VD
 cells:List Nat
 locals:Nat
structure Stp where
 heap:List (List Int)
 base:Frm
 calls:List Frm
 tin:List Int
 tout:List Int
def Stp.cur (st:Stp):Frm:=st.calls.getLast?.getD st.base
def Stp.setCur (st:Stp) (f:Frm):Stp:=if st.calls=[] then { st with base:=f } else { st with calls:=st.calls.dropLast++[f] }
def Stp.items (st:Stp) (c:Nat):List Int:=st.heap.getD c []
def Frm.cell (f:Frm) (s:List UInt8):Option Nat:=(CO s f.vars).bind (f.cells[·]?)
def Stp.cellD (st:Stp) (s:List UInt8):Nat:=(st.cur.cell s).getD 0
def Stp.look (st:Stp) (s:List UInt8):Option (List Int):=(st.cur.cell s).map st.items
def Stp.all (st:Stp) (c:Nat) (xs:List Int):Stp:={ st with heap:=st.heap.set c xs }
def Stp.put (st:Stp) (c i:Nat) (v:Int):Stp:=st.all c ((st.items c).set i v)
def C8 (k:Int):Int:=if k=2 then 1 else if k=3 then 2 else if k=4∨k=5∨k=44∨k=45 then 3 else 0
mutual
def Nd.bad (v:List VD):Nd→Int
 | .mk k _ s l=>if C8 k≠0∧Fm v s (C8 k)≠0 then Fm v s (C8 k) else E1 v l
def E1 (v:List VD):List Nd→Int
 | []=>0
 | t::r=>if t.bad v≠0 then t.bad v else E1 v r
end
def TY (k x y:Int):Int:=if k=40 then MM (x+y) else if k=41 then MM (x-y) else Oz .xor x y
def Stp.transfer (st:Stp) (k:Int) (c i:Nat):Int×Stp:=
 if k=46 then match st.tin with
  | []=>(17,st)
  | v::r=>if (st.items c).getD i 0≠0 then (14,st) else (0,{ st.put c i v with tin:=r })
 else if k=47 then if 4096≤st.tin.length then (5,st) else (0,{ st.put c i 0 with tin:=(st.items c).getD i 0::st.tin })
 else if k=48 then if 4096≤st.tout.length then (5,st) else (0,{ st.put c i 0 with tout:=st.tout++[(st.items c).getD i 0] })
 else match st.tout.getLast? with
  | none=>(17,st)
  | some v=>if (st.items c).getD i 0≠0 then (14,st) else (0,{ st.put c i v with tout:=st.tout.dropLast })
def Stp.move (st:Stp) (k:Int) (c i d:Nat):Int×Stp:=
 if k=44 then if 1000≤(st.items d).length then (5,st) else (0,(st.all d (st.items d++[(st.items c).getD i 0])).put c i 0)
 else match (st.items d).getLast? with
  | none=>(13,st)
  | some v=>if (st.items c).getD i 0≠0 then (14,st) else (0,(st.put c i v).all d (st.items d).dropLast)
def Stp.exec (st:Stp) (k:Int) (s:List UInt8) (l:List Nd):Int×Stp:=
 let x:=l.getD 0 (.mk 0 0 [] [])
 let y:=l.getD 1 (.mk 0 0 [] [])
 let a:=BD st.look x
 let r:=if k=43 then BD st.look y else if 40≤k∧k≤42 then Bf st.look y else (0,0)
 let c:=st.cellD x.name
 if a.2≠0 then (a.2,st) else if r.2≠0 then (r.2,st) else if a.1<0∨((st.items c).length:Int)≤a.1 then (12,st)
 else if 40≤k∧k≤42 then (0,st.put c a.1.toNat (TY k ((st.items c).getD a.1.toNat 0) r.1))
 else if k=43 then
  if r.1<0∨((st.items (st.cellD y.name)).length:Int)≤r.1 then (12,st)
  else (0,(st.put c a.1.toNat ((st.items (st.cellD y.name)).getD r.1.toNat 0)).put (st.cellD y.name) r.1.toNat ((st.items c).getD a.1.toNat 0))
 else if k=44∨k=45 then st.move k c a.1.toNat (st.cellD s)
 else st.transfer k c a.1.toNat
def Stp.run1 (st:Stp) (k n:Int) (s:List UInt8) (l:List Nd):Int×Stp:=
 if k=56 then (9,st) else if (Nd.mk k n s l).bad st.cur.vars≠0 then ((Nd.mk k n s l).bad st.cur.vars,st) else st.exec k s l
def Stp.opens (st:Stp) (v:VD) (x:Int):Int×Stp:=
 if (CO v.name st.cur.vars).isSome then (22,st)
 else (0,{ st.setCur ⟨st.cur.vars++[v],st.cur.cells++[st.heap.length],st.cur.locals+1⟩ with heap:=st.heap++[if v.kind=1 then [x] else []] })
def Stp.closes (st:Stp) (s:List UInt8) (x:Int):Int×Stp:=
 let f:=st.cur
 let v:=f.vars.getD (f.vars.length-1) ⟨[],0,0⟩
 let xs:=st.items (f.cells.getD (f.vars.length-1) 0)
 if f.locals=0∨v.name≠s then (6,st)
 else if v.kind=1∧xs.getD 0 0≠x∨v.kind=3∧0<xs.length then (16,st)
 else (0,st.setCur ⟨f.vars.dropLast,f.cells.dropLast,f.locals-1⟩)
def DV (f:Frm):List VD→List (List UInt8)→Int×List Nat
 | [],_=>(0,[])
 | _::_,[]=>(0,[])
 | v::r,s::q=>match CO s f.vars with
  | none=>(6,[])
  | some i=>if (f.vars.getD i ⟨[],0,0⟩).kind≠v.kind∨(f.vars.getD i ⟨[],0,0⟩).len≠v.len then (7,[])
   else ((DV f r q).1,f.cells.getD i 0::(DV f r q).2)
def Stp.enters (st:Stp) (ps:List VD) (args:List (List UInt8)):Int×Stp:=
 if ps.length≠args.length then (7,st)
 else if (DV st.cur ps args).1≠0 then ((DV st.cur ps args).1,st)
 else if 100≤st.calls.length then (19,st)
 else (0,{ st with calls:=st.calls++[⟨ps,(DV st.cur ps args).2,0⟩] })
def Stp.leaves (st:Stp):Int×Stp:=if st.calls=[]∨0<st.cur.locals then (20,st) else (0,{ st with calls:=st.calls.dropLast })
structure Rn where
 st:Stp
 rem:Nat
def Bw (r:Rn):Except Int Rn:=if r.rem=0 then .error 18 else .ok ⟨r.st,r.rem-1⟩
def Df (f:Stp→Int×Stp) (r:Rn):Except Int Rn:=if (f r.st).1≠0 then .error (f r.st).1 else .ok ⟨(f r.st).2,r.rem⟩
def Cf (t:Nd) (r:Rn):Except Int Int:=if (Bf r.st.look t).2≠0 then .error (Bf r.st.look t).2 else .ok (Bf r.st.look t).1
def Cc (t:Nd) (r:Rn):Except Int (Bool×Rn):=(Bw r).bind fun r=>(Cf t r).bind fun v=>.ok (decide (v≠0),r)
def BN (t:Nd) (want:Bool) (r:Rn):Except Int Rn:=(Cc t r).bind fun p=>if p.1≠want then .error 15 else .ok p.2
def F0 (f:Nd→Rn→Except Int Rn):List Nd→Rn→Except Int Rn
 | [],r=>.ok r
 | t::l,r=>(f t r).bind (F0 f l)
def C9 (b1 b2:Rn→Except Int Rn) (test entry:Nd):Nat→Rn→Except Int Rn
 | 0,_=>.error (-1)
 | m+1,r=>(b1 r).bind fun r=>(Cc test r).bind fun p=>if p.1 then .ok p.2 else (b2 p.2).bind fun r=>(BN entry false r).bind (C9 b1 b2 test entry m)
def AV (f:Bool→Nd→Rn→Except Int Rn) (back:Bool) (t:Nd) (r:Rn):Except Int Rn:=F0 (f back) (if back then t.kids.reverse else t.kids) r
def BZ (l:List Nd) (i:Nat):Nd:=l.getD i (.mk 0 0 [] [])
def AF (ps:List PD):Nat→Bool→Nd→Rn→Except Int Rn
 | 0,_,_,_=>.error (-1)
 | d+1,back,.mk k n s l,r=>
  let first:=if back then BZ l (l.length-1) else BZ l 0
  let last:=if back then BZ l 0 else BZ l (l.length-1)
  let blk:=AV (AF ps d)
  if k=52 then (Cc first r).bind fun p=>(blk back (if p.1 then BZ l 1 else BZ l 2) p.2).bind (BN last p.1)
  else if k=53 then (BN first true r).bind (C9 (blk back (BZ l 1)) (blk back (BZ l 2)) last first d)
  else if k=54 then (Bw r).bind fun r=>(Cf first r).bind fun v=>(Df (·.opens ⟨s,1,0⟩ v) r).bind fun r=>(blk back (BZ l 1) r).bind fun r=>
   (Bw r).bind fun r=>(Cf last r).bind fun v=>Df (·.closes s v) r
  else if k=55 then (Bw r).bind fun r=>(Df (·.opens ⟨s,3,0⟩ 0) r).bind fun r=>(blk back (BZ l 0) r).bind fun r=>(Bw r).bind (Df (·.closes s 0))
  else if k=50∨k=51 then
   let p:=ps.getD ((Cp ps s).getD 0) ⟨[],[],.mk 0 0 [] []⟩
   (Bw r).bind fun r=>(Df (·.enters p.params (l.map Nd.name)) r).bind fun r=>(blk (back != decide (k=51)) p.body r).bind fun r=>(Bw r).bind (Df (·.leaves))
  else (Bw r).bind (Df (·.run1 (if back then BQ k else k) n s l))
structure Shape (α:Type) where
 sz:Nat
 rep:World→(Nat→Prop)→α→List Value→Prop
 len : ∀ {w S x cs},rep w S x cs→cs.length=sz
 one : ∀ {w S x cs},rep w S x cs→cs.all Value.one=true
 mono : ∀ {w w':World} {S S' x cs},rep w S x cs→(∀b,S b→S' b)→(∀b o v,S b→w.cell? ⟨b,o,none⟩=some v→w'.cell? ⟨b,o,none⟩=some v)→rep w' S' x cs
 lt : ∀ {w S x cs},rep w S x cs→rep w (fun b=>S b∧b<w.heap.size) x cs
structure OwnL {α:Type} (sh:Shape α) (w:World) (B:Nat) (e:TypeId) (v:Value) (xs:List α):Prop where
 ex : ∃css:List (List Value),Own w B e sh.sz v xs.length css.flatten∧css.length=xs.length ∧ ∀(i:Nat) (x:α) (cs:List Value),xs[i]? = some x→css[i]? = some cs→sh.rep w (fun b=>B≤b∧v.ownBlock≠some b) x cs
theorem OwnL.nil {α:Type} {sh:Shape α} {w:World} {B e:Nat}:OwnL sh w B e (.slice none 0 0) []:=⟨⟨[],Own.nil,rfl,by simp⟩⟩
theorem Own.ge {w:World} {b e sz n:Nat} {v:Value} {cs:List Value} (h:Own w b e sz v n cs) {k:Nat} (hk:v.ownBlock=some k):b≤k:=(h.blk hk).1
theorem OwnL.ge {α:Type} {sh:Shape α} {w:World} {B e:Nat} {v:Value} {xs:List α} (h:OwnL sh w B e v xs) {k:Nat} (hk:v.ownBlock=some k):B≤k:=by
 obtain ⟨css,h1,-⟩:=h.ex
 exact h1.ge hk
theorem OwnL.ext {α:Type} {sh:Shape α} {w w':World} {B e:Nat} {v:Value} {xs:List α} (h:OwnL sh w B e v xs) (x:Ext w w'):OwnL sh w' B e v xs:=by
 obtain ⟨css,h1,h2,h3⟩:=h.ex
 exact ⟨css,h1.ext x,h2,fun i y cs hy hc=>sh.mono (h3 i y cs hy hc) (fun _ h=>h) (fun b o u _ hu=>x.keep hu)⟩
instance {α:Type} {sh:Shape α} {w w':World} {B e:Nat} {v:Value} {xs:List α}:LfE w w' (OwnL sh w B e v xs) (OwnL sh w' B e v xs):=⟨fun x h=>Bk.OwnL.ext h x⟩
theorem OwnL.fr {α:Type} {sh:Shape α} {S:Nat→Prop} {w w':World} {B e:Nat} {v:Value} {xs:List α} (h:OwnL sh w B e v xs) (x:Fr S w w') (hs : ∀k,S k→k<B):OwnL sh w' B e v xs:=by
 obtain ⟨css,h1,h2,h3⟩:=h.ex
 exact ⟨css,h1.fr x (fun k hk hS=>by have:=h1.ge hk;have:=hs k hS;omega),h2,fun i y cs hy hc=>sh.mono (h3 i y cs hy hc) (fun _ h=>h) (fun b o u hb hu=>x.keep (fun hS=>by have:=hs b hS;omega) hu)⟩
instance {α:Type} {sh:Shape α} {S:Nat→Prop} {w w':World} {B e:Nat} {v:Value} {xs:List α}:LfF S w w' (OwnL sh w B e v xs) (∀k,S k→k<B) (OwnL sh w' B e v xs):=⟨fun x s h=>Bk.OwnL.fr h x s⟩
theorem Fs {α:Type} {css:List (List α)} {n:Nat} (h : ∀cs∈css,cs.length=n):css.flatten.length=css.length*n:=by
 induction css with
 | nil=>simp
 | cons c r ih=>
  simp only [List.flatten_cons,List.length_append,List.length_cons,ih (fun x hx=>h x (List.mem_cons_of_mem _ hx)),h c List.mem_cons_self,Nat.add_mul]
  omega
def Wb {α:Type} (sh:Shape α) (w:World) (B:Nat) (e:TypeId) (xs:List α):Option Value→World→Prop
 | some v',w'=> ∃g cap,v' = .slice (some ⟨g,0,none⟩) xs.length cap∧OwnL sh w' B e v' xs∧Fr (B ≤ ·) w w'
 | none,_=>False
section
variable {P:Program} {n:Nat} {l:Sl} {w:World} {tab:Tab} {zt:ES} {ty:TypeId} {α:Type} {sh:Shape α}
theorem Iv {x y:Operand} {t e sz1 B cap:Nat} {sE:Sk} {zs:List Value} {v:Value} {xs:List α} {cs:List Value} {z:α} {p:Addr} (T:TabOk P tab) (Z:CV P zt) (ht:AM tab t=some (.slice e,sz1)) (hE:AM tab e=some (sE,sh.sz)) (hz:DF zt e=some zs) (hzl:zs.length=sh.sz)
 (hby:D1 P e=true) (hsz:Nat.blt 0 sh.sz=true) (hx:ev l x=some v) (hy:ev l y=some (.slice (some p) 1 cap)) (hown:OwnL sh w B e v xs) (hr:Row w p cs) (hrep:sh.rep w (fun b=>B≤b∧v.ownBlock≠some b) z cs) (hlen:xs.length≤10000000000) (hB:B≤w.heap.size) :
 Ck P n l (.call ⟨.builtin .append,#[x,y],#[t,t]⟩) ty w (Wb sh w B e (xs++[z])):=by
 obtain ⟨css,h1,h2,h3⟩:=hown.ex;have hd:=FF (P:=P) (n:=n) (l:=l) (ty:=ty) T Z ht hE hz hzl hby hsz hx hy h1 hr (by rw [sh.len hrep];simp) (sh.one hrep) (by omega) (by omega) hB
 unfold Ck at hd ⊢
 intro a dst pos after g next Q ha hn c;refine hd a dst pos after g next Q ha (fun v' w' hG=>?_) (fun w' hG=>hG.elim);obtain ⟨g1,g2,g,cap',g3,g4⟩:=hG;have hgB:B≤g:=g1.ge (k:=g) (by rw [g3];rfl);refine hn v' w' ⟨g,cap',by rw [g3];simp,⟨css++[cs],?_,by simp [h2],fun i y ds hy hc=>?_⟩,g2.weaken (fun b hb=>h1.ge hb)⟩
 · have e1:(css++[cs]).flatten=css.flatten++cs:=by simp
   have e2:(xs++[z]).length=xs.length+1:=by simp
   rw [e1,e2];exact g1
 · have key:sh.rep w (fun b=>B≤b∧v.ownBlock≠some b) y ds:=by
    by_cases hi:i<xs.length
    · rw [List.getElem?_append_left hi] at hy
      rw [List.getElem?_append_left (by omega)] at hc
      exact h3 i y ds hy hc
    · have hil:i<(xs++[z]).length:=by
       rcases Nat.lt_or_ge i (xs++[z]).length with h|h
       · exact h
       · rw [List.getElem?_eq_none h] at hy;cases hy
      simp only [List.length_append,List.length_cons,List.length_nil] at hil
      have hi':i=xs.length:=by omega
      subst hi';rw [List.getElem?_append_right (Nat.le_refl _)] at hy;rw [List.getElem?_append_right (by omega)] at hc;simp only [Nat.sub_self,List.getElem?_cons_zero,Option.some.injEq] at hy;rw [h2] at hc;simp only [Nat.sub_self,List.getElem?_cons_zero,Option.some.injEq] at hc;subst hy hc
      exact hrep
   refine sh.mono (sh.lt key) (fun b hb=>⟨hb.1.1,fun e=>?_⟩) (fun b o u hb hu=>g2.keep hb.1.2 hu);rw [g3] at e;simp only [Value.ownBlock,Option.some.injEq] at e;subst e
   rcases g4 with h|h
   · exact hb.1.2 h
   · omega
theorem CZ {ops:Array Oper} {Q:Exit→Act→World→Prop} {rest:List Oper} {d:Nat} {pos:String} {after:Array Edge} {x y:Operand} {t e sz1 B cap:Nat} {sE:Sk} {zs:List Value} {v:Value} {xs:List α} {cs:List Value} {z:α} {p:Addr} (T:TabOk P tab) (Z:CV P zt) (ht:AM tab t=some (.slice e,sz1)) (hE:AM tab e=some (sE,sh.sz)) (hz:DF zt e=some zs) (hzl:zs.length=sh.sz)
 (hby:D1 P e=true) (hsz:Nat.blt 0 sh.sz=true) (hx:ev l x=some v) (hy:ev l y=some (.slice (some p) 1 cap)) (hown:OwnL sh w B e v xs) (hr:Row w p cs) (hrep:sh.rep w (fun b=>B≤b∧v.ownBlock≠some b) z cs) (hlen:xs.length≤10000000000) (hB:B≤w.heap.size) (hd:Nat.blt d n=true)
 (k : ∀g cap' w1,OwnL sh w1 B e (.slice (some ⟨g,0,none⟩) (xs++[z]).length cap') (xs++[z])→Fr (B ≤ ·) w w1→LW P n ops Q rest ((d,.slice (some ⟨g,0,none⟩) (xs++[z]).length cap')::l) w1) :
 LW P n ops Q (⟨some d,.call ⟨.builtin .append,#[x,y],#[t,t]⟩,ty,pos,after,none⟩::rest) l w:=
 AS (Iv T Z ht hE hz hzl hby hsz hx hy hown hr hrep hlen hB) hd (fun v w1 ⟨g,cap,h,ho,hf⟩=>by subst h;exact k g cap w1 ho hf) (fun _ h=>h)
end
section
variable {P:Program} {n:Nat} {l:Sl} {S:World→Prop} {w:World} {tab:Tab} {zt:ES} {ty:TypeId} {ops:Array Oper} {Q:Exit→Act→World→Prop} {rest:List Oper} {d:Nat} {pos:String} {after:Array Edge}
end
theorem OwnL.rows {α:Type} {sh:Shape α} {w:World} {B e:Nat} {v:Value} {xs:List α} (h:OwnL sh w B e v xs) (hx:xs≠[]) : ∃g cap,v = .slice (some ⟨g,0,none⟩) xs.length cap∧B≤g ∧ ∀(i:Nat) (x:α),xs[i]? = some x → ∃cs,Row w ⟨g,i*sh.sz,none⟩ cs∧sh.rep w (fun b=>B≤b∧b≠g) x cs:=by
 obtain ⟨css,h1,h2,h3⟩:=h.ex
 rcases h1.row with ⟨rfl,hn,-⟩|⟨g,cap,rfl,hg,hob,hr⟩
 · exact absurd (List.length_eq_zero_iff.1 hn) hx
 · refine ⟨g,cap,rfl,hg,fun i x hi=>?_⟩
   have hlt:i<xs.length:=by
    rcases Nat.lt_or_ge i xs.length with h|h
    · exact h
    · rw [List.getElem?_eq_none h] at hi;cases hi
   have hc:css[i]? = some css[i]:=List.getElem?_eq_getElem (by omega);refine ⟨css[i],?_,sh.mono (h3 i x _ hi hc) (fun b hb=>⟨hb.1,fun e=>hb.2 (by rw [hob,e])⟩) (fun _ _ _ _ h=>h)⟩;intro j u hj
   have hlen : ∀cs∈css,cs.length=sh.sz:=fun cs hcs=>by
    obtain ⟨k,hk,rfl⟩:=List.mem_iff_getElem.1 hcs
    exact sh.len (h3 k xs[k] css[k] (List.getElem?_eq_getElem (by omega)) (List.getElem?_eq_getElem hk))
   have hjl:j<sh.sz:=by
    rw [←sh.len (h3 i x _ hi hc)]
    rcases Nat.lt_or_ge j css[i].length with h|h
    · exact h
    · rw [List.getElem?_eq_none h] at hj;cases hj
   have hget:css.flatten[i*sh.sz+j]? = some u:=by
    have hsp:css=css.take i++css[i]::css.drop (i+1):=by
     have h1:=(List.take_append_drop i css).symm
     rwa [List.drop_eq_getElem_cons (by omega)] at h1
    have hfl:css.flatten=(css.take i).flatten++(css[i]++(css.drop (i+1)).flatten):=by
     refine (congrArg List.flatten hsp).trans ?_;rw [List.flatten_append,List.flatten_cons]
    have htl:(css.take i).flatten.length=i*sh.sz:=by
     rw [Fs (fun cs hcs=>hlen cs (List.mem_of_mem_take hcs)),List.length_take]
     congr 1;omega
    rw [hfl,List.getElem?_append_right (by omega),htl,Nat.add_sub_cancel_left,List.getElem?_append_left (by rw [hlen _ (List.getElem_mem _)];exact hjl)]
    exact hj
   have:=hr.at (i:=i*sh.sz+j) hget
   have e:(⟨g,i*sh.sz,none⟩:Addr).add j=⟨g,0+(i*sh.sz+j),none⟩:=by unfold Addr.add;by_cases h0:j=0<;>simp [h0]
   rw [e];exact this
theorem OwnL.slice {α:Type} {sh:Shape α} {w:World} {B e:Nat} {v:Value} {xs:List α} (h:OwnL sh w B e v xs) : ∃a cap,v = .slice a xs.length cap:=by
 obtain ⟨css,h1,h2,h3⟩:=h.ex
 rcases h1.row with ⟨rfl,hn,-⟩|⟨g,cap,rfl,-⟩
 · exact ⟨none,0,by rw [hn]⟩
 · exact ⟨_,_,rfl⟩
theorem EU {S:Nat→Prop} {w:World} (t:Nd) (a:Option Addr) (h:t.sits S w a):t.sits (fun b=>S b∧b<w.heap.size) w a:=by
 have key : ∀N:Nat,(∀(l:List Nd) (a:Option Addr),Au l<N→rowSits S w l a→rowSits (fun b=>S b∧b<w.heap.size) w l a):=by
  intro N
  induction N with
  | zero=>intro l a h;omega
  | succ N ih=>
   intro l a hN h
   cases l with
   | nil=>simp [rowSits]
   | cons x r=>
    simp only [rowSits] at h ⊢;obtain ⟨b,o,a',c,rfl,hS,h0,h1,h2,h3,hs,hr⟩:=h;have hb:=Cd h0;simp only [Au] at hN;have hx:=Nd.size_pos x;obtain ⟨k,n,s,l⟩:=x;simp only [Nd.size] at hN;refine ⟨b,o,a',c,rfl,⟨hS,hb⟩,h0,h1,h2,h3,?_,ih r _ (by omega) hr⟩;simp only [Nd.sits] at hs ⊢
    exact ih l a' (by omega) hs
 obtain ⟨k,n,s,l⟩:=t;simp only [Nd.sits] at h ⊢
 exact key (Au l+1) l a (by omega) h
def ndShape:Shape Nd where
 sz:=4
 rep:=fun w S t cs=> ∃a c,cs=t.cells a c∧t.sits S w a
 len:=fun ⟨_,_,h,_⟩=>by rw [h];rfl
 one:=fun ⟨_,_,h,_⟩=>by rw [h];rfl
 mono:=fun ⟨a,c,h,hs⟩ hS hc=>⟨a,c,h,Nd.sits_mono hS hc _ a hs⟩
 lt:=fun ⟨a,c,h,hs⟩=>⟨a,c,h,EU _ a hs⟩
theorem DK {S:Nat→Prop} {w:World} {g:Nat} (hS:S g) : ∀(xs:List Nd) (o:Nat),(∀(i:Nat) (x:Nd),xs[i]? = some x → ∃a c,Row w ⟨g,o+i*4,none⟩ (x.cells a c)∧x.sits S w a)→rowSits S w xs (some ⟨g,o,none⟩)
 | [],_,_=>by simp [rowSits]
 | x::r,o,h=>by
  simp only [rowSits];obtain ⟨a,c,hr,hs⟩:=h 0 x rfl;simp only [Nat.zero_mul,Nat.add_zero] at hr;refine ⟨g,o,a,c,rfl,hS,hr.at0 rfl,hr.at (i:=1) rfl,hr.at (i:=2) rfl,hr.at (i:=3) rfl,hs,DK hS r (o+4) (fun i y hy=>?_)⟩;obtain ⟨a,c,hr,hs⟩:=h (i+1) y (by simpa using hy)
  exact ⟨a,c,by rw [show o+4+i*4=o+(i+1)*4 from by omega];exact hr,hs⟩
theorem OwnL.sits {w:World} {B e:Nat} {a:Option Addr} {len cap:Nat} {xs:List Nd} {S:Nat→Prop} (h:OwnL ndShape w B e (.slice a len cap) xs) (hS : ∀b,B≤b→S b):rowSits S w xs a:=by
 by_cases hx:xs=[]
 · subst hx;simp [rowSits]
 · obtain ⟨g,cap',hv,hg,hall⟩:=h.rows hx
   simp only [Value.slice.injEq] at hv;obtain ⟨rfl,-,-⟩:=hv;refine DK (hS g hg) xs 0 (fun i x hi=>?_);obtain ⟨cs,hr,a,c,rfl,hs⟩:=hall i x hi
   exact ⟨a,c,by simpa [ndShape] using hr,Nd.sits_mono (fun b hb=>hS b hb.1) (fun _ _ _ _ h=>h) _ _ hs⟩
theorem Mc {w:World} {b o:Nat} {v0 v1 v2 v3:Value} (h0:w.cell? ⟨b,o,none⟩=some v0) (h1:w.cell? ⟨b,o+1,none⟩=some v1) (h2:w.cell? ⟨b,o+2,none⟩=some v2) (h3:w.cell? ⟨b,o+3,none⟩=some v3):Row w ⟨b,o,none⟩ [v0,v1,v2,v3]:=fun i v hi=>by
 rcases i with _|_|_|_|i<;>simp at hi<;>(subst hi;simpa [Addr.add])
theorem CB {S:Nat→Prop} {w:World} {l:List Nd} {a:Option Addr} (h:rowSits S w l a) (hl:l≠[]) : ∃b o,a=some ⟨b,o,none⟩∧S b ∧ ∀i t,l[i]? = some t → ∃a' c,Row w ⟨b,o+i*4,none⟩ (t.cells a' c)∧t.sits S w a':=by
 cases l with
 | nil=>exact absurd rfl hl
 | cons x r=>
  obtain ⟨b,o,a',c,rfl,hS,-⟩:=ER h (i:=0) (t:=x) rfl;refine ⟨b,o,rfl,hS,fun i t ht=>?_⟩;obtain ⟨b',o',a',c,he,-,h0,h1,h2,h3,hs⟩:=ER h ht;simp only [Option.some.injEq,Addr.mk.injEq] at he;obtain ⟨rfl,rfl,-⟩:=he
  exact ⟨a',c,Mc h0 h1 h2 h3,hs⟩
theorem G2 {S:Nat→Prop} {w:World} {k n:Int} {s:List UInt8} {l:List Nd} {a:Option Addr} (h:rowSits S w l a):(Nd.mk k n s l).sits S w a:=by simp only [Nd.sits];exact h
theorem OwnL.lt {α:Type} {sh:Shape α} {w:World} {B e:Nat} {v:Value} {xs:List α} (h:OwnL sh w B e v xs) {k:Nat} (hk:v.ownBlock=some k):k<w.heap.size:=by
 obtain ⟨css,h1,-⟩:=h.ex
 exact (h1.blk hk).2
theorem CP {S:Nat→Prop} {w:World} {k n:Int} {s:List UInt8} {a:Option Addr}:(Nd.mk k n s []).sits S w a:=by simp [Nd.sits,rowSits]
theorem Nd.sits.wide {S S':Nat→Prop} {w:World} {t:Nd} {a:Option Addr} (h:t.sits S w a) (hS : ∀b,S b→S' b):t.sits S' w a:=Nd.sits_mono hS (fun _ _ _ _ h=>h) t a h
section
variable {S:Nat→Prop} {w:World} {k n:Int} {s:List UInt8} {b:Nat} {x y z u:Nd} {xa ya za ua:Option Addr} {xc yc zc uc:Nat}
theorem Blk.sub {vs:List Value} (h:Blk w b vs) (i m:Nat):Row w ⟨b,i,none⟩ ((vs.drop i).take m):=by
 have:=h.row.sub i m
 simpa using this
theorem I4 {S1:Nat→Prop} (h:Blk w b (x.cells xa xc)) (hb:S b) (hx:x.sits S1 w xa) (kx : ∀b,S1 b→S b):(Nd.mk k n s [x]).sits S w (some ⟨b,0,none⟩):=by
 simp only [Nd.sits];refine DK hb _ 0 (fun i t ht=>?_)
 match i,ht with
 | 0,ht=>simp at ht;subst ht;exact ⟨xa,xc,h.sub 0 4,Nd.sits.wide hx kx⟩
theorem I5 {S1 S2:Nat→Prop} (h:Blk w b (x.cells xa xc++y.cells ya yc)) (hb:S b) (hx:x.sits S1 w xa) (kx : ∀b,S1 b→S b) (hy:y.sits S2 w ya) (ky : ∀b,S2 b→S b):(Nd.mk k n s [x,y]).sits S w (some ⟨b,0,none⟩):=by
 simp only [Nd.sits];refine DK hb _ 0 (fun i t ht=>?_)
 match i,ht with
 | 0,ht=>simp at ht;subst ht;exact ⟨xa,xc,h.sub 0 4,Nd.sits.wide hx kx⟩
 | 1,ht=>simp at ht;subst ht;exact ⟨ya,yc,h.sub 4 4,Nd.sits.wide hy ky⟩
theorem Vo {S1 S2 S3:Nat→Prop} (h:Blk w b (x.cells xa xc++y.cells ya yc++z.cells za zc)) (hb:S b) (hx:x.sits S1 w xa) (kx : ∀b,S1 b→S b) (hy:y.sits S2 w ya) (ky : ∀b,S2 b→S b) (hz:z.sits S3 w za) (kz : ∀b,S3 b→S b):(Nd.mk k n s [x,y,z]).sits S w (some ⟨b,0,none⟩):=by
 simp only [Nd.sits];refine DK hb _ 0 (fun i t ht=>?_)
 match i,ht with
 | 0,ht=>simp at ht;subst ht;exact ⟨xa,xc,h.sub 0 4,Nd.sits.wide hx kx⟩
 | 1,ht=>simp at ht;subst ht;exact ⟨ya,yc,h.sub 4 4,Nd.sits.wide hy ky⟩
 | 2,ht=>simp at ht;subst ht;exact ⟨za,zc,h.sub 8 4,Nd.sits.wide hz kz⟩
theorem Vp {S1 S2 S3 S4:Nat→Prop} (h:Blk w b (x.cells xa xc++y.cells ya yc++z.cells za zc++u.cells ua uc)) (hb:S b) (hx:x.sits S1 w xa) (kx : ∀b,S1 b→S b) (hy:y.sits S2 w ya) (ky : ∀b,S2 b→S b) (hz:z.sits S3 w za) (kz : ∀b,S3 b→S b) (hu:u.sits S4 w ua) (ku : ∀b,S4 b→S b):(Nd.mk k n s [x,y,z,u]).sits S w (some ⟨b,0,none⟩):=by
 simp only [Nd.sits];refine DK hb _ 0 (fun i t ht=>?_)
 match i,ht with
 | 0,ht=>simp at ht;subst ht;exact ⟨xa,xc,h.sub 0 4,Nd.sits.wide hx kx⟩
 | 1,ht=>simp at ht;subst ht;exact ⟨ya,yc,h.sub 4 4,Nd.sits.wide hy ky⟩
 | 2,ht=>simp at ht;subst ht;exact ⟨za,zc,h.sub 8 4,Nd.sits.wide hz kz⟩
 | 3,ht=>simp at ht;subst ht;exact ⟨ua,uc,h.sub 12 4,Nd.sits.wide hu ku⟩
end
def Cells (S:Nat→Prop) (w:World):List Nd→List Value→Prop
 | [],cs=>cs=[]
 | t::r,cs=> ∃a c ds,cs=t.cells a c++ds∧t.sits S w a∧Cells S w r ds
theorem Cells.len {S:Nat→Prop} {w:World} : ∀ {l:List Nd} {cs:List Value},Cells S w l cs→cs.length=l.length*4
 | [],_,h=>by rw [show _=[] from h];rfl
 | t::r,_,⟨a,c,ds,e,_,h⟩=>by
  have:=h.len;rw [e,List.length_append,this,List.length_cons]
  simp only [List.length_cons,List.length_nil];omega
theorem Cells.one {S:Nat→Prop} {w:World} : ∀ {l:List Nd} {cs:List Value},Cells S w l cs→cs.all Value.one=true
 | [],_,h=>by rw [show _=[] from h];rfl
 | t::r,_,⟨a,c,ds,e,_,h⟩=>by rw [e,List.all_append,h.one];rfl
theorem Cells.app {S:Nat→Prop} {w:World} : ∀ {l q:List Nd} {cs ds:List Value},Cells S w l cs→Cells S w q ds→Cells S w (l++q) (cs++ds)
 | [],_,_,_,h,k=>by rw [show _=[] from h];exact k
 | t::r,q,_,ds,⟨a,c,es,e,hs,h⟩,k=>⟨a,c,es++ds,by rw [e,List.append_assoc],hs,h.app k⟩
theorem Cells.fr {S T:Nat→Prop} {w w':World} (x:Fr T w w') (hd : ∀b,S b → ¬T b) : ∀ {l:List Nd} {cs:List Value},Cells S w l cs→Cells S w' l cs
 | [],_,h=>h
 | t::r,_,⟨a,c,ds,e,hs,h⟩=>⟨a,c,ds,e,hs.fr x hd,Cells.fr x hd h⟩
theorem TZ {w:World} {b o:Nat} {us vs:List Value} (h1:Row w ⟨b,o,none⟩ us) (h2:Row w ⟨b,o+us.length,none⟩ vs):Row w ⟨b,o,none⟩ (us++vs):=fun i v hi=>by
 rcases Nat.lt_or_ge i us.length with hlt|hge
 · rw [List.getElem?_append_left hlt] at hi
   exact h1 i v hi
 · rw [List.getElem?_append_right hge] at hi
   have h:=h2.at hi
   have e:(⟨b,o,none⟩:Addr).add i=⟨b,o+i,none⟩:=by unfold Addr.add;by_cases h0:i=0<;>simp [h0]
   rw [e,show o+i=o+us.length+(i-us.length) by omega];exact h
theorem J5 {S S':Nat→Prop} {w:World} (hS : ∀b,S b→S' b) : ∀(l:List Nd) (g o:Nat) (cs:List Value),S' g→Row w ⟨g,o,none⟩ cs→Cells S w l cs→rowSits S' w l (some ⟨g,o,none⟩)
 | [],_,_,_,_,_,_=>by simp [rowSits]
 | t::r,g,o,_,hg,hr,⟨a,c,ds,e,hs,h⟩=>by
  subst e;simp only [rowSits]
  have hd:Row w ⟨g,o+4,none⟩ ds:=by
   have:=hr.sub 4 ds.length
   simpa using this
  exact ⟨g,o,a,c,rfl,hg,hr.at0 rfl,hr.at (i:=1) rfl,hr.at (i:=2) rfl,hr.at (i:=3) rfl,Nd.sits.wide hs hS,J5 hS r g (o+4) ds hg hd h⟩
def OwnG (e B:Nat) (w:World) (g cap:Nat) (l:List Nd):Prop:=B≤g ∧ ∃cs,Own w g e 4 (.slice (some ⟨g,0,none⟩) l.length cap) l.length cs∧Cells (· < B) w l cs
theorem OwnG.lt {e B:Nat} {w:World} {g cap:Nat} {l:List Nd} (h:OwnG e B w g cap l):g<w.heap.size:=by
 obtain ⟨-,cs,h1,-⟩:=h
 exact (h1.blk (k:=g) rfl).2
theorem OwnG.fr {e B:Nat} {T:Nat→Prop} {w w':World} {g cap:Nat} {l:List Nd} (h:OwnG e B w g cap l) (x:Fr T w w') (hs : ∀k,T k→B≤k∧k≠g):OwnG e B w' g cap l:=by
 obtain ⟨h0,cs,h1,h2⟩:=h;refine ⟨h0,cs,h1.fr x (fun k hk hT=>?_),h2.fr x (fun b hb hT=>?_)⟩
 · simp only [Value.ownBlock,Option.some.injEq] at hk
   exact (hs k hT).2 hk.symm
 · have:=(hs b hT).1;omega
instance {e B:Nat} {T:Nat→Prop} {w w':World} {g cap:Nat} {l:List Nd}:LfF T w w' (OwnG e B w g cap l) (∀k,T k→B≤k∧k≠g) (OwnG e B w' g cap l):=⟨fun x s h=>Bk.OwnG.fr h x s⟩
theorem OwnG.ext {e B:Nat} {w w':World} {g cap:Nat} {l:List Nd} (h:OwnG e B w g cap l) (x:Ext w w'):OwnG e B w' g cap l:=by
 obtain ⟨h0,cs,h1,h2⟩:=h
 exact ⟨h0,cs,h1.ext x,h2.fr (T:=fun _=>False) (.of_ext x) (fun _ _ h=>h)⟩
instance {e B:Nat} {w w':World} {g cap:Nat} {l:List Nd}:LfE w w' (OwnG e B w g cap l) (OwnG e B w' g cap l):=⟨fun x h=>Bk.OwnG.ext h x⟩
theorem OwnG.sits {e B:Nat} {w:World} {g cap:Nat} {l:List Nd} (h:OwnG e B w g cap l):rowSits (fun b=>b<B∨b=g) w l (some ⟨g,0,none⟩):=by
 obtain ⟨h0,cs,h1,h2⟩:=h
 rcases h1.row with ⟨hv,-⟩|⟨g',cap',hv,-,-,hr⟩
 · simp at hv
 · simp only [Value.slice.injEq,Option.some.injEq,Addr.mk.injEq,and_true] at hv
   obtain ⟨rfl,-⟩:=hv
   exact J5 (fun b hb=>Or.inl hb) l g 0 cs (Or.inr rfl) hr h2
theorem I6 {P:Program} (w:World) (t ty e:TypeId) (i:TypeInfo) (ht:P.underlying t=some (.slice e)) (hi:P.info? e=some i) (g n cap c:Nat) (hn:n≤cap) :
 (Builtin.append_ #[t,t] ty #[.slice (some ⟨g,0,none⟩) n cap,.slice none 0 c]).run P w = .ok (.slice (some ⟨g,0,none⟩) n cap) w:=by
 simp [Builtin.append_,AH ht,Go.sizeOf,typeInfo,hi,Builtin.lenOf,Builtin.firstCells,hn,storeCells]
def J6 (K:Value→World→Prop):Option Value→World→Prop
 | some v,w=>K v w
 | none,_=>False
section
variable {P:Program} {n:Nat} {l:Sl} {w:World} {tab:Tab} {zt:ES} {ty:TypeId}
end
abbrev VD.cells (v:VD):List Value:=[str v.name,.int .u8 v.kind,.int .i64 v.len]
abbrev VD.val (v:VD):Value:=.agg #[str v.name,.int .u8 v.kind,.int .i64 v.len]
def WP (w:World) (b o:Nat) (v:VD):Prop:=Row w ⟨b,o,none⟩ v.cells
def VDs (S:Nat→Prop) (w:World) (l:List VD) (a:Option Addr):Prop:=Arr S 3 WP w l a
abbrev PD.cells (p:PD) (pa:Option Addr) (pc:Nat) (ba:Option Addr) (bc:Nat):List Value:=[str p.name,.slice pa p.params.length pc,.int .u8 p.body.kind,.int .i64 p.body.num,str p.body.name,.slice ba p.body.kids.length bc]
def Wc (S:Nat→Prop) (w:World) (b o:Nat) (p:PD):Prop:= ∃pa pc ba bc,Row w ⟨b,o,none⟩ (p.cells pa pc ba bc)∧VDs S w p.params pa∧p.body.sits S w ba
def PDs (S:Nat→Prop) (w:World) (l:List PD) (a:Option Addr):Prop:=Arr S 6 (Wc S) w l a
theorem VDs.ext {S:Nat→Prop} {w w':World} {l:List VD} {a:Option Addr} (h:VDs S w l a) (x:Ext w w'):VDs S w' l a:=h.mono (fun _ h=>h) (fun _ _ _ _ _ h=>Row.ext h x)
instance {S:Nat→Prop} {w w':World} {l:List VD} {a:Option Addr}:LfE w w' (VDs S w l a) (VDs S w' l a):=⟨fun x h=>Bk.VDs.ext h x⟩
theorem PDs.ext {S:Nat→Prop} {w w':World} {l:List PD} {a:Option Addr} (h:PDs S w l a) (x:Ext w w'):PDs S w' l a:=
 h.mono (fun _ h=>h) (fun _ _ _ _ _ ⟨pa,pc,ba,bc,h1,h2,h3⟩=>⟨pa,pc,ba,bc,h1.ext x,h2.ext x,h3.ext x⟩)
instance {S:Nat→Prop} {w w':World} {l:List PD} {a:Option Addr}:LfE w w' (PDs S w l a) (PDs S w' l a):=⟨fun x h=>Bk.PDs.ext h x⟩
abbrev PG.cells (g:PG) (va:Option Addr) (vc:Nat) (pa:Option Addr) (pc:Nat) (ma:Option Addr) (mc:Nat):List Value:=
 [.slice va g.vars.length vc,.slice pa g.procs.length pc,.int .u8 g.main.kind,.int .i64 g.main.num,str g.main.name,.slice ma g.main.kids.length mc]
structure PG.sits (S:Nat→Prop) (w:World) (g:PG) (va pa ma:Option Addr):Prop where
 vars:VDs S w g.vars va
 procs:PDs S w g.procs pa
 main:g.main.sits S w ma
theorem PG.sits.ext {S:Nat→Prop} {w w':World} {g:PG} {va pa ma:Option Addr} (h:g.sits S w va pa ma) (x:Ext w w'):g.sits S w' va pa ma:=⟨h.vars.ext x,h.procs.ext x,h.main.ext x⟩
instance {S:Nat→Prop} {w w':World} {g:PG} {va pa ma:Option Addr}:LfE w w' (g.sits S w va pa ma) (g.sits S w' va pa ma):=⟨fun x h=>Bk.PG.sits.ext h x⟩
theorem VDs.fr {S T:Nat→Prop} {w w':World} {l:List VD} {a:Option Addr} (h:VDs S w l a) (x:Fr T w w') (hs : ∀b,S b → ¬T b):VDs S w' l a:=h.mono (fun _ h=>h) (fun b _ _ _ hb h=>Row.fr h x (hs b hb))
instance {S T:Nat→Prop} {w w':World} {l:List VD} {a:Option Addr}:LfF T w w' (VDs S w l a) (∀b,S b → ¬T b) (VDs S w' l a):=⟨fun x s h=>Bk.VDs.fr h x s⟩
theorem PDs.fr {S T:Nat→Prop} {w w':World} {l:List PD} {a:Option Addr} (h:PDs S w l a) (x:Fr T w w') (hs : ∀b,S b → ¬T b):PDs S w' l a:=
 h.mono (fun _ h=>h) (fun b _ _ _ hb ⟨pa,pc,ba,bc,h1,h2,h3⟩=>⟨pa,pc,ba,bc,h1.fr x (hs b hb),h2.fr x hs,h3.fr x hs⟩)
instance {S T:Nat→Prop} {w w':World} {l:List PD} {a:Option Addr}:LfF T w w' (PDs S w l a) (∀b,S b → ¬T b) (PDs S w' l a):=⟨fun x s h=>Bk.PDs.fr h x s⟩
theorem PG.sits.fr {S T:Nat→Prop} {w w':World} {g:PG} {va pa ma:Option Addr} (h:g.sits S w va pa ma) (x:Fr T w w') (hs : ∀b,S b → ¬T b):g.sits S w' va pa ma:=⟨h.vars.fr x hs,h.procs.fr x hs,h.main.fr x hs⟩
instance {S T:Nat→Prop} {w w':World} {g:PG} {va pa ma:Option Addr}:LfF T w w' (g.sits S w va pa ma) (∀b,S b → ¬T b) (g.sits S w' va pa ma):=⟨fun x s h=>Bk.PG.sits.fr h x s⟩
theorem VDs.wide {S S':Nat→Prop} {w:World} {l:List VD} {a:Option Addr} (h:VDs S w l a) (hs : ∀b,S b→S' b):VDs S' w l a:=h.mono hs (fun _ _ _ _ _ h=>h)
theorem M0 {w w':World} {b o:Nat} {vs:List Value} (h:Row w ⟨b,o,none⟩ vs) (hc : ∀o v,w.cell? ⟨b,o,none⟩=some v→w'.cell? ⟨b,o,none⟩=some v):Row w' ⟨b,o,none⟩ vs:=fun i v hi=>by
 have:=h.at hi
 have e:(⟨b,o,none⟩:Addr).add i=⟨b,o+i,none⟩:=by unfold Addr.add;by_cases h0:i=0<;>simp [h0]
 rw [e];exact hc _ _ this
theorem VDs.move {S S':Nat→Prop} {w w':World} {l:List VD} {a:Option Addr} (h:VDs S w l a) (hS : ∀b,S b→S' b) (hc : ∀b o v,S b→w.cell? ⟨b,o,none⟩=some v→w'.cell? ⟨b,o,none⟩=some v):VDs S' w' l a:=
 h.mono hS (fun b o x _ hb h=>M0 h (fun o v=>hc b o v hb))
theorem VDs.lt2 {S:Nat→Prop} {w:World} {l:List VD} {a:Option Addr} (h:VDs S w l a):VDs (fun b=>S b∧b<w.heap.size) w l a:=by
 rcases h with h|⟨b,o,h1,h2,h3⟩
 · exact Or.inl h
 · cases l with
   | nil=>exact Or.inl rfl
   | cons v r=>exact Or.inr ⟨b,o,h1,⟨h2,Cd (Row.at0 (h3 0 v rfl) rfl)⟩,h3⟩
def PF:Shape PD where
 sz:=6
 rep:=fun w S p cs=> ∃pa pc ba bc,cs=p.cells pa pc ba bc∧VDs S w p.params pa∧p.body.sits S w ba
 len:=fun ⟨_,_,_,_,h,_⟩=>by rw [h];rfl
 one:=fun ⟨_,_,_,_,h,_⟩=>by rw [h];rfl
 mono:=fun ⟨pa,pc,ba,bc,h,h1,h2⟩ hS hc=>⟨pa,pc,ba,bc,h,h1.move hS hc,Nd.sits_mono hS hc _ ba h2⟩
 lt:=fun ⟨pa,pc,ba,bc,h,h1,h2⟩=>⟨pa,pc,ba,bc,h,h1.lt2,EU _ ba h2⟩
theorem OwnL.pds {w:World} {B e:Nat} {a:Option Addr} {len cap:Nat} {xs:List PD} {S:Nat→Prop} (h:OwnL PF w B e (.slice a len cap) xs) (hS : ∀b,B≤b→S b):PDs S w xs a:=by
 by_cases hx:xs=[]
 · exact Or.inl hx
 · obtain ⟨g,cap',hv,hg,hall⟩:=h.rows hx
   simp only [Value.slice.injEq] at hv;obtain ⟨rfl,-,-⟩:=hv;refine Or.inr ⟨g,0,rfl,hS g hg,fun i x hi=>?_⟩;obtain ⟨cs,hr,pa,pc,ba,bc,rfl,h1,h2⟩:=hall i x hi
   exact ⟨pa,pc,ba,bc,by simpa [PF] using hr,h1.wide (fun b hb=>hS b hb.1),h2.wide (fun b hb=>hS b hb.1)⟩
theorem Hx:1≤maxLen:=by unfold maxLen;omega
theorem OwnL.lit {α:Type} {sh:Shape α} {w:World} {B b e:Nat} {x:α} {cs:List Value} (h:TB w b cs e) (hB:B≤b) (hr:sh.rep w (fun k=>B≤k∧k≠b) x cs):OwnL sh w B e (.slice (some ⟨b,0,none⟩) 1 1) [x]:=by
 have hl:=sh.len hr;refine ⟨[cs],⟨by simp [hl],Or.inr ⟨b,1,cs.toArray,rfl,hB,h,Nat.le_refl _,Hx,by simp [hl],by simp [←hl]⟩⟩,rfl,fun i y ds hy hd=>?_⟩
 match i,hy,hd with
 | 0,hy,hd=>
  simp at hy hd
  subst hy hd
  exact sh.mono hr (fun k hk=>⟨hk.1,fun e=>hk.2 (by simpa [Value.ownBlock] using e.symm)⟩) (fun _ _ _ _ h=>h)
def Rows (S:Nat→Prop) (w:World) (cs:List Value) (a:Option Addr):Prop:=cs=[] ∨ ∃b o,a=some ⟨b,o,none⟩∧S b∧Row w ⟨b,o,none⟩ cs
section
variable {S S' T:Nat→Prop} {w w':World} {cs:List Value} {a:Option Addr}
theorem Rows.nil:Rows S w [] a:=Or.inl rfl
theorem Rows.ext (h:Rows S w cs a) (x:Ext w w'):Rows S w' cs a:=h.imp id fun ⟨b,o,h1,h2,h3⟩=>⟨b,o,h1,h2,h3.ext x⟩
instance  : LfE w w' (Rows S w cs a) (Rows S w' cs a):=⟨fun x h=>Bk.Rows.ext h x⟩
theorem Rows.fr (h:Rows S w cs a) (x:Fr T w w') (hs : ∀b,S b → ¬T b):Rows S w' cs a:=h.imp id fun ⟨b,o,h1,h2,h3⟩=>⟨b,o,h1,h2,h3.fr x (hs b h2)⟩
instance  : LfF T w w' (Rows S w cs a) (∀b,S b → ¬T b) (Rows S w' cs a):=⟨fun x s h=>Bk.Rows.fr h x s⟩
theorem Rows.wide (h:Rows S w cs a) (hS : ∀b,S b→S' b):Rows S' w cs a:=h.imp id fun ⟨b,o,h1,h2,h3⟩=>⟨b,o,h1,hS b h2,h3⟩
theorem Rows.lt2 (h:Rows S w cs a):Rows (fun b=>S b∧b<w.heap.size) w cs a:=by
 rcases h with h|⟨b,o,h1,h2,h3⟩
 · exact Or.inl h
 · cases cs with
   | nil=>exact Or.inl rfl
   | cons v r=>exact Or.inr ⟨b,o,h1,⟨h2,Cd (Row.at0 h3 rfl)⟩,h3⟩
theorem Rows.ltA (h:Rows S w cs a):Rows (· < w.heap.size) w cs a:=h.lt2.wide fun _ h=>h.2
theorem Rows.get (h:Rows S w cs a) (hc:cs≠[]) : ∃b o,a=some ⟨b,o,none⟩∧S b∧Row w ⟨b,o,none⟩ cs:=h.resolve_left hc
theorem Rows.move (h:Rows S w cs a) (hS : ∀b,S b→S' b) (hc : ∀b o v,S b→w.cell? ⟨b,o,none⟩=some v→w'.cell? ⟨b,o,none⟩=some v):Rows S' w' cs a:=
 h.imp id fun ⟨b,o,h1,h2,h3⟩=>⟨b,o,h1,hS b h2,M0 h3 (fun o v=>hc b o v h2)⟩
end
def OwnF (e sz B:Nat) (w:World) (g cap n:Nat) (cs:List Value):Prop:=B≤g∧Own w g e sz (.slice (some ⟨g,0,none⟩) n cap) n cs
theorem OwnF.lt {e sz B:Nat} {w:World} {g cap n:Nat} {cs:List Value} (h:OwnF e sz B w g cap n cs):g<w.heap.size:=(h.2.blk (k:=g) rfl).2
theorem OwnF.fr {e sz B:Nat} {T:Nat→Prop} {w w':World} {g cap n:Nat} {cs:List Value} (h:OwnF e sz B w g cap n cs) (x:Fr T w w') (hs : ∀k,T k→k≠g):OwnF e sz B w' g cap n cs:=
 ⟨h.1,h.2.fr x (fun k hk hT=>by simp only [Value.ownBlock,Option.some.injEq] at hk;exact hs k hT hk.symm)⟩
instance {e sz B:Nat} {T:Nat→Prop} {w w':World} {g cap n:Nat} {cs:List Value}:LfF T w w' (OwnF e sz B w g cap n cs) (∀k,T k→k≠g) (OwnF e sz B w' g cap n cs):=⟨fun x s h=>Bk.OwnF.fr h x s⟩
theorem OwnF.ext {e sz B:Nat} {w w':World} {g cap n:Nat} {cs:List Value} (h:OwnF e sz B w g cap n cs) (x:Ext w w'):OwnF e sz B w' g cap n cs:=⟨h.1,h.2.ext x⟩
instance {e sz B:Nat} {w w':World} {g cap n:Nat} {cs:List Value}:LfE w w' (OwnF e sz B w g cap n cs) (OwnF e sz B w' g cap n cs):=⟨fun x h=>Bk.OwnF.ext h x⟩
theorem OwnF.row {e sz B:Nat} {w:World} {g cap n:Nat} {cs:List Value} (h:OwnF e sz B w g cap n cs):Row w ⟨g,0,none⟩ cs:=by
 rcases h.2.row with ⟨hv,-⟩|⟨g',cap',hv,-,-,hr⟩
 · simp at hv
 · simp only [Value.slice.injEq,Option.some.injEq,Addr.mk.injEq,and_true] at hv
   obtain ⟨rfl,-⟩:=hv
   exact hr
theorem OwnF.rows {e sz B:Nat} {w:World} {g cap n:Nat} {cs:List Value} {S:Nat→Prop} (h:OwnF e sz B w g cap n cs) (hS:S g):Rows S w cs (some ⟨g,0,none⟩):=Or.inr ⟨g,0,rfl,hS,h.row⟩
theorem OwnF.le {e sz B:Nat} {w:World} {g cap n:Nat} {cs:List Value} (h:OwnF e sz B w g cap n cs):n≤cap:=by
 rcases h.2.2 with ⟨hv,-⟩|⟨g',cap',cur,hv,-,-,hc,-⟩
 · simp at hv
 · simp only [Value.slice.injEq] at hv
   obtain ⟨-,-,rfl⟩:=hv;exact hc
section
variable {P:Program} {n:Nat} {l:Sl} {w:World} {tab:Tab} {zt:ES} {ty:TypeId}
theorem Iw {t e sz1 sz B:Nat} {sE:Sk} (T:TabOk P tab) (ht:AM tab t=some (.slice e,sz1)) (hE:AM tab e=some (sE,sz)) (hB:B≤w.heap.size) :
 Ck P n l (.buildSlice t 0 #[]) ty w (J6 fun o w'=> ∃g,o = .slice (some ⟨g,0,none⟩) 0 0∧OwnF e sz B w' g 0 0 []∧w.heap.size≤g∧g<w'.heap.size∧Ext w w'):=by
 unfold Ck
 intro a dst pos after g next Q ha hn _;obtain ⟨i,hi,hs⟩:=(T _ _ _ hE).info;have hu:=(T _ _ _ ht).under
 have e1:(Instr.buildSlice t 0 #[]).run P w = .ok (.slice (some ⟨w.heap.size,0,none⟩) 0 0) (w.alloc (.cells #[] e)):=by
  simp [Instr.buildSlice,AH hu,Go.sizeOf,typeInfo,hi,Instr.fill,newRow,show Array.range 0 = #[] from rfl]
 have e2:(execOp a.eval ⟨dst,.buildSlice t 0 #[],ty,pos,after,g⟩).run P w = .ok (.value (.slice (some ⟨w.heap.size,0,none⟩) 0 0)) (w.alloc (.cells #[] e)):=by
  simp [execOp,Sem.run_bind,e1,Result.andThen_ok]
 unfold Oper.wp
 rw [e2];have hx:Ext w (w.alloc (.cells #[] e)):=(Ex w [] e).ext;refine hn _ _ ⟨w.heap.size,rfl,⟨hB,by simp,Or.inr ⟨w.heap.size,0,#[],rfl,Nat.le_refl _,?_,Nat.le_refl _,by unfold maxLen;omega,by simp,by simp⟩⟩,Nat.le_refl _,?_,hx⟩
 · rw [show (w.alloc (Obj.cells #[] e)).heap=w.heap.push (.cells #[] e) from rfl];simp
 · rw [show (w.alloc (Obj.cells #[] e)).heap=w.heap.push (.cells #[] e) from rfl];simp
theorem Ix {x y:Operand} {t e sz1 sz B g cap c k m:Nat} {sE:Sk} {zs:List Value} {a:Option Addr} {cs ds:List Value} {S:Nat→Prop} (T:TabOk P tab) (Z:CV P zt) (ht:AM tab t=some (.slice e,sz1)) (hE:AM tab e=some (sE,sz)) (hz:DF zt e=some zs) (hzl:zs.length=sz)
 (hby:D1 P e=true) (hsz:Nat.blt 0 sz=true) (hx:ev l x=some (.slice (some ⟨g,0,none⟩) k cap)) (hy:ev l y=some (.slice a m c)) (hown:OwnF e sz B w g cap k cs) (hs:Rows S w ds a) (hl:ds.length=m*sz) (hone:ds.all Value.one=true) (hkm:k+m≤100000000000) :
 Ck P n l (.call ⟨.builtin .append,#[x,y],#[t,t]⟩) ty w (J6 fun o w'=> ∃g' cap',o = .slice (some ⟨g',0,none⟩) (k+m) cap'∧OwnF e sz B w' g' cap' (k+m) (cs++ds)∧(g'=g∨w.heap.size≤g')∧g'<w'.heap.size∧Fr (fun k=>k=g) w w'):=by
 have hlt:=hown.lt;have hncap:=hown.le;obtain ⟨h0,h1⟩:=hown
 have hsz':0<sz:=by simpa using hsz
 by_cases hm:m=0
 · subst hm
   have d:ds=[]:=by simpa using hl
   subst d
   unfold Ck
   intro act dst pos after gd next Q ha hn _;obtain ⟨i,hi,hsz⟩:=(T _ _ _ hE).info;have hun:=(T _ _ _ ht).under
   have key : ∃w',(Builtin.append_ #[t,t] ty #[.slice (some ⟨g,0,none⟩) k cap,.slice a 0 c]).run P w = .ok (.slice (some ⟨g,0,none⟩) k cap) w'∧Own w' g e sz (.slice (some ⟨g,0,none⟩) k cap) k cs∧Fr (fun k=>k=g) w w':=by
    cases a with
    | none=>exact ⟨w,I6 w t ty e i hun hi g k cap c hncap,h1,.of_ext (Ext.refl w)⟩
    | some p=>
     obtain ⟨w',r1,r2,r3⟩:=run_append_fits (P:=P) w g t ty e i sz hun hi hsz g k cap cs h1 p 0 c [] (by simp) (fun j u hj=>by simp at hj) (fun u hu=>by cases hu) (by omega);refine ⟨w',by simpa using r1,by simpa using r2,?_⟩;have:=Fr.of_grown r3
     exact this.weaken (fun b hb=>by simpa using hb)
   obtain ⟨w',hrun,ho,hf⟩:=key
   have e1:(execOp act.eval ⟨dst,.call ⟨.builtin .append,#[x,y],#[t,t]⟩,ty,pos,after,gd⟩).run P w = .ok (.value (.slice (some ⟨g,0,none⟩) k cap)) w':=by
    simp only [execOp,resolve,invoke,builtin,Sem.run_bind,Sem.run_pure,Result.andThen_ok,List.map_toArray,List.map_cons,List.map_nil,ha.ev hx,ha.ev hy,hrun]
   unfold Oper.wp
   rw [e1];have hsz':=hf.size
   exact hn _ _ ⟨g,cap,by simp,⟨h0,by simpa using ho⟩,Or.inl rfl,by omega,hf⟩
 · have hdn:ds≠[]:=by
    rintro rfl;simp only [List.length_nil] at hl;have:=Nat.mul_pos (Nat.pos_of_ne_zero hm) hsz'
    omega
   obtain ⟨pb,po,rfl,-,d1⟩:=hs.get hdn;have hd:=FF (P:=P) (n:=n) (l:=l) (ty:=ty) T Z ht hE hz hzl hby hsz hx hy h1 d1 hl hone (by omega) (by omega) (by omega)
   unfold Ck at hd ⊢
   intro act dst pos after gd next Q ha hn q;refine hd act dst pos after gd next Q ha (fun v' w' hG=>?_) (fun w' hG=>hG.elim);obtain ⟨g1,g2,g',cap',g3,g4⟩:=hG;have hf:Fr (fun k=>k=g) w w':=g2.weaken (fun b hb=>by simpa [Value.ownBlock] using hb.symm);subst g3;have hgg:=g1.blk (k:=g') rfl;refine hn _ w' ⟨g',cap',rfl,⟨by omega,?_⟩,?_,hgg.2,hf⟩
   · obtain ⟨k1,k2|⟨g2',f,cur,k3,k4,k5⟩⟩:=g1
     · simp at k2
     · simp only [Value.slice.injEq,Option.some.injEq,Addr.mk.injEq,and_true,true_and] at k3
       obtain ⟨rfl,rfl⟩:=k3
       exact ⟨k1,Or.inr ⟨g',cap',cur,rfl,Nat.le_refl _,k5⟩⟩
   · rcases g4 with h|h
     · simp only [Value.ownBlock,Option.some.injEq] at h
       exact Or.inl h.symm
     · exact Or.inr h
end
theorem Ly {α:Type} {f:α→List Value} {sz:Nat} (hf : ∀x,(f x).length=sz) {w:World} {b:Nat} : ∀(l:List α) (o:Nat),(∀(i:Nat) (x:α),l[i]? = some x→Row w ⟨b,o+i*sz,none⟩ (f x))→Row w ⟨b,o,none⟩ (l.flatMap f)
 | [],o,_=>fun i v hi=>by simp at hi
 | x::r,o,h=>by
  rw [List.flatMap_cons];refine TZ (by simpa using h 0 x rfl) ?_;rw [hf x];refine Ly hf r (o+sz) (fun i y hy=>?_);have:=h (i+1) y hy;rw [show o+sz+i*sz=o+(i+1)*sz by rw [Nat.add_mul];omega]
  exact this
theorem Lz {α:Type} {f:α→List Value} {sz:Nat} (hf : ∀x,(f x).length=sz) {w:World} {b:Nat} : ∀(l:List α) (o:Nat),Row w ⟨b,o,none⟩ (l.flatMap f) → ∀(i:Nat) (x:α),l[i]? = some x→Row w ⟨b,o+i*sz,none⟩ (f x)
 | [],_,_,i,x,hi=>by simp at hi
 | y::r,o,h,i,x,hi=>by
  rw [List.flatMap_cons] at h
  cases i with
  | zero=>
   simp only [List.getElem?_cons_zero,Option.some.injEq] at hi;subst hi;intro j v hj
   have hlt:j<(f y).length:=by
    rcases Nat.lt_or_ge j (f y).length with h'|h'
    · exact h'
    · rw [List.getElem?_eq_none h'] at hj;cases hj
   have:=h j v (by rw [List.getElem?_append_left hlt];exact hj)
   simpa using this
  | succ i=>
   simp only [List.getElem?_cons_succ] at hi
   have hd:Row w ⟨b,o+sz,none⟩ (r.flatMap f):=by
    have:=h.sub sz (r.flatMap f).length;rw [List.drop_left' (hf y),List.take_length] at this
    exact this
   have:=Lz hf r (o+sz) hd i x hi;rw [show o+(i+1)*sz=o+sz+i*sz by rw [Nat.add_mul];omega]
   exact this
theorem GI {α:Type} {f:α→List Value} {sz:Nat} (hf : ∀x,(f x).length=sz) : ∀l:List α,(l.flatMap f).length=l.length*sz
 | []=>by simp
 | x::r=>by rw [List.flatMap_cons,List.length_append,hf x,GI hf r,List.length_cons,Nat.add_mul];omega
theorem Jk {α:Type} {f:α→List Value} (hf : ∀x,(f x).all Value.one=true) : ∀l:List α,(l.flatMap f).all Value.one=true
 | []=>rfl
 | x::r=>by rw [List.flatMap_cons,List.all_append,hf x,Jk hf r];rfl
theorem LA {P:Program} {n:Nat} {l:Sl} {S:World→Prop} {tab:Tab} {t t' ty sz e:Nat} {x:Operand} {a:Option Addr} {m c:Nat} (T:TabOk P tab) (ht:AM tab t=some (.slice e,sz)) (hx:ev l x=some (.slice a m c)):BH P n l S (.binOp .eql t x (.const (.slice none 0 0)) t') ty (.bool a.isNone):=by
 unfold BH
 intro act w dst pos after g ha _;have hu:P.underlying t=some (.slice e):=(T _ _ _ ht).under
 have e1:(eqGuard .eql t x (.const (.slice none 0 0)) (.slice a m c) (.slice none 0 0)).run P w = .ok () w:=by unfold eqGuard;simp
 have e2:(Op.equal t (.slice a m c) (.slice none 0 0)).run P w = .ok a.isNone w:=by
  show (Op.equalIn (9999+1) t (.slice a m c) (.slice none 0 0)).run P w=_
  unfold Op.equalIn
  cases a<;>simp [AH hu,Result.andThen]
 have hn:act.eval (.const (.slice none 0 0)) = .slice none 0 0:=rfl
 simp [execOp,ha.ev hx,hn,e1,e2,binOp]
theorem J7 {P:Program} {n:Nat} {l:Sl} {S:World→Prop} {tab:Tab} {t t' ty sz e:Nat} {x:Operand} {m c:Nat} (T:TabOk P tab) (ht:AM tab t=some (.slice e,sz)) (hx:ev l x=some (.slice none m c)):BH P n l S (.binOp .eql t x (.const (.slice none 0 0)) t') ty (.bool true):=LA T ht hx
theorem J8 {P:Program} {n:Nat} {l:Sl} {S:World→Prop} {tab:Tab} {t t' ty sz e:Nat} {x:Operand} {p:Addr} {m c:Nat} (T:TabOk P tab) (ht:AM tab t=some (.slice e,sz)) (hx:ev l x=some (.slice (some p) m c)):BH P n l S (.binOp .eql t x (.const (.slice none 0 0)) t') ty (.bool false):=LA T ht hx
end Bk
namespace Go.Proofs
open Go.Shelf
def Tryz.lays137_ren:Go.Shelf.Ren:=⟨fun|137=>122|217=>147|266=>164|n=>n,fun|9=>9|5=>5|3=>3|n=>n,fun|n=>n⟩
theorem Tryz.lays137:Go.Proofs.Lays.n137 prog Tryz.lays137_ren:={
 mixed:=by kernel_rfl
 f137:=func122.trans (congrArg some (by kernel_rfl))
 f217:=func147.trans (congrArg some (by kernel_rfl))
 f266:=func164.trans (congrArg some (by kernel_rfl))
 t3:=underlying3
 a3:=isAgg3
 z3:=sizeOf3
 v3:=zeroValue3
 t5:=underlying5
 a5:=isAgg5
 z5:=sizeOf5
 v5:=zeroValue5
 t9:=underlying9
 a9:=isAgg9
 z9:=sizeOf9
 v9:=zeroValue9 }
open Go.RowKit in
theorem Tryz.strings_IndexByte (s:ByteArray) (c:Int) (w:World) :
 Calls prog 122 #[.string s,.int .u8 c] w fun e w'=>e = .returned (.int .i64 (Lib.indexByte s.data.toList c.toNat.toUInt8))∧w'=w:=Any.strings_IndexByte Tryz.lays137 s c w
def Tryz.laysC172_ren:Go.Shelf.Ren:=⟨fun|172=>188|244=>194|245=>195|247=>200|279=>201|280=>202|281=>203|282=>204|287=>207|316=>208|171=>210|205=>209|321=>212|322=>213|243=>214|246=>216|283=>217|284=>218|285=>219|286=>220|129=>222|317=>221|318=>223|319=>224|320=>225|337=>226|338=>227|n=>n,fun|9=>9|3=>3|75=>217|76=>218|4=>4|5=>5|167=>228|37=>124|0=>0|85=>229|2=>2|168=>231|53=>235|175=>236|46=>238|210=>241|127=>244|145=>247|143=>245|21=>21|171=>250|173=>253|212=>256|51=>257|20=>20|213=>258|232=>262|233=>263|80=>166|n=>n,fun|15=>2|16=>3|17=>4|18=>5|19=>6|n=>n⟩
theorem Tryz.laysC172:Go.Proofs.LaysC.n172 prog Tryz.laysC172_ren:={
 mixed:=by kernel_rfl
 f129:=func222.trans (congrArg some (by kernel_rfl))
 f171:=func210.trans (congrArg some (by kernel_rfl))
 f172:=func188.trans (congrArg some (by kernel_rfl))
 f205:=func209.trans (congrArg some (by kernel_rfl))
 f243:=func214.trans (congrArg some (by kernel_rfl))
 f244:=func194.trans (congrArg some (by kernel_rfl))
 f245:=func195.trans (congrArg some (by kernel_rfl))
 f246:=func216.trans (congrArg some (by kernel_rfl))
 f247:=func200.trans (congrArg some (by kernel_rfl))
 f279:=func201.trans (congrArg some (by kernel_rfl))
 f280:=func202.trans (congrArg some (by kernel_rfl))
 f281:=func203.trans (congrArg some (by kernel_rfl))
 f282:=func204.trans (congrArg some (by kernel_rfl))
 f283:=func217.trans (congrArg some (by kernel_rfl))
 f284:=func218.trans (congrArg some (by kernel_rfl))
 f285:=func219.trans (congrArg some (by kernel_rfl))
 f286:=func220.trans (congrArg some (by kernel_rfl))
 f287:=func207.trans (congrArg some (by kernel_rfl))
 f316:=func208.trans (congrArg some (by kernel_rfl))
 f317:=func221.trans (congrArg some (by kernel_rfl))
 f318:=func223.trans (congrArg some (by kernel_rfl))
 f319:=func224.trans (congrArg some (by kernel_rfl))
 f320:=func225.trans (congrArg some (by kernel_rfl))
 f321:=func212.trans (congrArg some (by kernel_rfl))
 f322:=func213.trans (congrArg some (by kernel_rfl))
 f337:=func226.trans (congrArg some (by kernel_rfl))
 f338:=func227.trans (congrArg some (by kernel_rfl))
 t0:=underlying0
 a0:=isAgg0
 z0:=sizeOf0
 v0:=zeroValue0
 t2:=underlying2
 a2:=isAgg2
 z2:=sizeOf2
 v2:=zeroValue2
 t3:=underlying3
 a3:=isAgg3
 z3:=sizeOf3
 v3:=zeroValue3
 t4:=underlying4
 a4:=isAgg4
 z4:=sizeOf4
 v4:=zeroValue4
 t5:=underlying5
 a5:=isAgg5
 z5:=sizeOf5
 v5:=zeroValue5
 t9:=underlying9
 a9:=isAgg9
 z9:=sizeOf9
 v9:=zeroValue9
 t20:=underlying20
 a20:=isAgg20
 z20:=sizeOf20
 v20:=zeroValue20
 t21:=underlying21
 a21:=isAgg21
 z21:=sizeOf21
 v21:=zeroValue21
 t37:=underlying124
 a37:=isAgg124
 z37:=sizeOf124
 v37:=zeroValue124
 t46:=underlying238
 a46:=isAgg238
 z46:=sizeOf238
 v46:=zeroValue238
 t51:=underlying257
 a51:=isAgg257
 z51:=sizeOf257
 v51:=zeroValue257
 t53:=underlying235
 a53:=isAgg235
 z53:=sizeOf235
 v53:=zeroValue235
 t75:=underlying217
 a75:=isAgg217
 z75:=sizeOf217
 v75:=zeroValue217
 t76:=underlying218
 a76:=isAgg218
 z76:=sizeOf218
 v76:=zeroValue218
 t85:=underlying229
 a85:=isAgg229
 z85:=sizeOf229
 v85:=zeroValue229
 t127:=underlying244
 a127:=isAgg244
 z127:=sizeOf244
 v127:=zeroValue244
 t143:=underlying245
 a143:=isAgg245
 z143:=sizeOf245
 v143:=zeroValue245
 t145:=underlying247
 a145:=isAgg247
 z145:=sizeOf247
 v145:=zeroValue247
 t167:=underlying228
 a167:=isAgg228
 z167:=sizeOf228
 v167:=zeroValue228
 t168:=underlying231
 a168:=isAgg231
 z168:=sizeOf231
 v168:=zeroValue231
 t171:=underlying250
 a171:=isAgg250
 z171:=sizeOf250
 v171:=zeroValue250
 t173:=underlying253
 a173:=isAgg253
 z173:=sizeOf253
 v173:=zeroValue253
 t175:=underlying236
 a175:=isAgg236
 z175:=sizeOf236
 v175:=zeroValue236
 t210:=underlying241
 a210:=isAgg241
 z210:=sizeOf241
 v210:=zeroValue241
 t212:=underlying256
 a212:=isAgg256
 z212:=sizeOf256
 v212:=zeroValue256
 t213:=underlying258
 a213:=isAgg258
 z213:=sizeOf258
 t232:=underlying262
 a232:=isAgg262
 z232:=sizeOf262
 v232:=zeroValue262
 t233:=underlying263
 a233:=isAgg263
 z233:=sizeOf263
 v233:=zeroValue263
 g15:=by kernel_rfl
 g16:=by kernel_rfl
 g17:=by kernel_rfl
 g18:=by kernel_rfl
 g19:=by kernel_rfl
 t80:=underlying166
 a80:=isAgg166
 z80:=sizeOf166
 v80:=zeroValue166
 i0:=by kernel_rfl
 i2:=by kernel_rfl
 i3:=by kernel_rfl
 i4:=by kernel_rfl
 i5:=by kernel_rfl
 i9:=by kernel_rfl
 i20:=by kernel_rfl
 i21:=by kernel_rfl
 i37:=by kernel_rfl
 i46:=by kernel_rfl
 i51:=by kernel_rfl
 i53:=by kernel_rfl
 i75:=by kernel_rfl
 i76:=by kernel_rfl
 i80:=by kernel_rfl
 i85:=by kernel_rfl
 i127:=by kernel_rfl
 i143:=by kernel_rfl
 i145:=by kernel_rfl
 i167:=by kernel_rfl
 i168:=by kernel_rfl
 i171:=by kernel_rfl
 i173:=by kernel_rfl
 i175:=by kernel_rfl
 i210:=by kernel_rfl
 i212:=by kernel_rfl
 i232:=by kernel_rfl
 i233:=by kernel_rfl
 m15:=by kernel_rfl
 m16:=by kernel_rfl
 m17:=by kernel_rfl
 m18:=by kernel_rfl
 m19:=by kernel_rfl
 c0:=by kernel_rfl
 c2:=by kernel_rfl
 c3:=by kernel_rfl
 c4:=by kernel_rfl
 c5:=by kernel_rfl
 c9:=by kernel_rfl
 c20:=by kernel_rfl
 c21:=by kernel_rfl
 c37:=by kernel_rfl
 c46:=by kernel_rfl
 c51:=by kernel_rfl
 c53:=by kernel_rfl
 c75:=by kernel_rfl
 c76:=by kernel_rfl
 c80:=by kernel_rfl
 c85:=by kernel_rfl
 c127:=by kernel_rfl
 c143:=by kernel_rfl
 c145:=by kernel_rfl
 c167:=by kernel_rfl
 c168:=by kernel_rfl
 c171:=by kernel_rfl
 c173:=by kernel_rfl
 c175:=by kernel_rfl
 c210:=by kernel_rfl
 c212:=by kernel_rfl
 c213:=by kernel_rfl
 c232:=by kernel_rfl
 c233:=by kernel_rfl }
open Go.RowKit in
theorem Tryz.strconv_Atoi_ok (s:ByteArray) (hmax:s.size≤9223372036854775806) (v:Int) (h:Lib.atoiAll s.data.toList = .ok v) (w:World) :
 Calls prog 188 #[.string s] w fun e w'=>e = .returned (.tuple #[.int .i64 v,.nilIface])∧(w'=w ∨ ∃t,w'=Lib.bytesWorld w 5 t):=Any.strconv_Atoi_ok Tryz.laysC172 s hmax v h w
open Go.RowKit in
theorem Tryz.strconv_Atoi_range (s:ByteArray) (hlim:s.size≤281474976710656) (h:Lib.atoiAll s.data.toList = .range) (ev:Value) (w:World) (hv:w.cell? ⟨3,0,none⟩=some ev) (hev:ev = .nilIface ∨ ∃te pe,ev = .iface te pe) :
 Calls prog 188 #[.string s] w fun e w'=> ∃N,e = .returned (.tuple #[.int .i64 (Lib.atoiSat s.data.toList),.iface 231 (.pointer (some ⟨N,0,none⟩))])∧w.heap.size≤N∧w'.heap[N]? = some (.cells #[.string ⟨#[65,116,111,105]⟩,.string s,ev] 241 (0,0))∧Below w.heap.size w w':=Any.strconv_Atoi_range Tryz.laysC172 s hlim h ev w hv hev
def Tryz.lays99_ren:Go.Shelf.Ren:=⟨fun|99=>121|206=>146|n=>n,fun|9=>9|4=>4|3=>3|n=>n,fun|n=>n⟩
theorem Tryz.lays99:Go.Proofs.Lays.n99 prog Tryz.lays99_ren:={
 mixed:=by kernel_rfl
 f99:=func121.trans (congrArg some (by kernel_rfl))
 f206:=func146.trans (congrArg some (by kernel_rfl))
 t3:=underlying3
 a3:=isAgg3
 z3:=sizeOf3
 v3:=zeroValue3
 t4:=underlying4
 a4:=isAgg4
 z4:=sizeOf4
 v4:=zeroValue4
 t9:=underlying9
 a9:=isAgg9
 z9:=sizeOf9
 v9:=zeroValue9 }
open Go.RowKit Go.Lib in
theorem Tryz.strings_HasPrefix (s p:ByteArray) (w:World) :
 Calls prog 121 #[.string s,.string p] w fun e w'=>e = .returned (.bool (Lib.hasPrefix s.data.toList p.data.toList))∧w'=w:=Any.strings_HasPrefix Tryz.lays99 s p w
end Go.Proofs
namespace Bk
open Go Go.RowKit Go.Proofs
theorem Md {k:IntKind} {a b:Int} (h:a=b):Ending.returned (.int k a) = .returned (.int k b):=by rw [h]
theorem AO {a b:Bool} (h:a=b):Ending.returned (.bool a) = .returned (.bool b):=by rw [h]
theorem FQ (k:Int) (w:World) (h0:0≤k) (h1:k≤255):Calls prog 145 #[.int .u8 k] w fun e w'=>e = .returned (.int .i64 (DH k))∧w=w':=by
 go_enter func145,ntmps145
 go_wp2_with fail
 all_goals go_ret
 all_goals (refine ⟨Md ?_,rfl⟩;(try simp only [beq_iff_eq,beq_eq_false_iff_ne,ne_eq,bne_iff_ne,decide_eq_true_eq,decide_eq_false_iff_not] at *);first|(subst k;rfl)|(unfold DH;(repeat' split)<;>omega))
structure Syms (w:World):Prop where
 sym : ∀i,i<43→w.cell? ⟨0,i,none⟩=some (str (symbols.getD i []))
theorem Syms.ext {w w':World} (h:Syms w) (x:Ext w w'):Syms w':=⟨fun i hi=>x.keep (h.sym i hi)⟩
instance {w w':World}:LfE w w' (Syms w) (Syms w'):=⟨fun x h=>Bk.Syms.ext h x⟩
theorem Syms.fr {S:Nat→Prop} {w w':World} (h:Syms w) (x:Fr S w w') (hs : ∀k,S k→0<k):Syms w':=⟨fun i hi=>x.keep (fun e=>by have:=hs _ e;omega) (h.sym i hi)⟩
instance {S:Nat→Prop} {w w':World}:LfF S w w' (Syms w) (∀k,S k→0<k) (Syms w'):=⟨fun x s h=>Bk.Syms.fr h x s⟩
theorem OA (k:Int) (h:43≤k):Fp k=[]:=by
 unfold Fp
 rw [List.getD_eq_getElem?_getD,List.getElem?_eq_none (show 43≤k.toNat by omega)]
 rfl
theorem J9 (k:Int) (w:World) (h0:0≤k) (h1:k≤255) (ht:Syms w):Calls prog 74 #[.int .u8 k] w fun e w'=>e = .returned (str (Fp k))∧w=w':=by
 by_cases hk:k<43
 · have g:=ht.sym k.toNat (by omega)
   have G:Hid (symbols.getD k.toNat []=Fp k):=Lib.hid rfl;clear ht
   go_enter func74,ntmps74
   go_wp2_with fail
   go_ret
   rw [←G.out]
   exact ⟨by simp [go_sem],rfl⟩
 · have hn:=OA k (by omega)
   have HN:=Lib.hid hn;clear hn ht
   go_enter func74,ntmps74
   go_wp2_with fail
   go_ret
   rw [HN.out]
   exact ⟨rfl,rfl⟩
theorem M1 (c:UInt8) (w:World):Calls prog 93 #[.int .u8 c.toNat] w fun e w'=>e = .returned (.bool (Fo c))∧w=w':=by
 go_enter func93,ntmps93
 go_wp2_with fail
 all_goals go_ret
 all_goals (refine ⟨AO ?_,rfl⟩;unfold Fo;rw [Bool.eq_iff_iff];simp;try omega)
theorem Me (c:UInt8) (w:World):Calls prog 96 #[.int .u8 c.toNat] w fun e w'=>e = .returned (.bool (De c))∧w=w':=by
 go_enter func96,ntmps96
 go_wp2_with fail
 all_goals go_ret
 all_goals (refine ⟨AO ?_,rfl⟩;unfold De;rw [Bool.eq_iff_iff];simp;try omega)
theorem PH (c:UInt8) (w:World):Calls prog 97 #[.int .u8 c.toNat] w fun e w'=>e = .returned (.bool (Hg c))∧w=w':=by
 go_enter func97,ntmps97
 go_wp2_with fail
 all_goals go_ret
 all_goals (refine ⟨AO ?_,rfl⟩;unfold Hg;rw [Bool.eq_iff_iff];simp;try omega)
theorem T0 (c:UInt8) (w:World):Calls prog 98 #[.int .u8 c.toNat] w fun e w'=>e = .returned (.bool (MY c))∧w=w':=by
 go_enter func98,ntmps98
 go_wp2_with fail
 all_goals go_ret
 all_goals (refine ⟨AO ?_,rfl⟩;unfold MY;rw [Bool.eq_iff_iff];simp;try omega)
theorem Qt (c:UInt8) (w:World):Calls prog 95 #[.int .u8 c.toNat] w fun e w'=>e = .returned (.bool (Ip c))∧w=w':=by
 go_enter func95,ntmps95
 cases hl:Fo c
 all_goals have HL:=Lib.hid hl;clear hl
 all_goals go_wp2_with (first|(go_at_call 93;refine (M1 c _).mono ?_;rintro e w' ⟨rfl,rfl⟩;rw [HL.out])|(go_at_call 96;refine (Me c _).mono ?_;rintro e w' ⟨rfl,rfl⟩))
 all_goals go_ret
 all_goals (refine ⟨AO ?_,rfl⟩;unfold Ip;rw [HL.out];simp)
theorem Mf (f:FuncId) (p:UInt8→Bool) (hp : ∀(c:UInt8) (w:World),Calls prog f #[.int .u8 c.toNat] w fun e w'=>e = .returned (.bool (p c))∧w=w')
 (he : ∀args w,(callFunc f args).run prog w = .ok (.enter f args) w) (s:List UInt8) (w:World) (hs:s.length≤9223372036854775807) :
 Calls prog 94 #[str s,.func (.func f) #[] #[]] w fun e w'=>e = .returned (.int .i64 (GE p s))∧w=w':=by
 have HP:=Lib.hid hp;clear hp
 go_enter func94,ntmps94
 go_wp2_with fail
 go_loop [8] (fun i=> ∃j:Nat,j≤s.length∧i = .int .i64 j∧Hid (GE p s=j+GE p (s.drop j))) (fun i=>s.length-(intOf i).toNat)
 case atStart=>exact ⟨0,Nat.zero_le _,rfl,Lib.hid (by simp)⟩
 case round=>
  obtain ⟨j,hj,rfl,HJ⟩:=hrel
  by_cases hlt:j<s.length
  · go_wp2_with fail
    refine (HP.out s[j] _).mono ?_;rintro e w' ⟨rfl,rfl⟩;have hd:=List.drop_eq_getElem_cons hlt
    have hsp:GE p (s.drop j)=if p s[j] then 1+GE p (s.drop (j+1)) else 0:=by
     rw [hd];unfold GE;rw [List.takeWhile_cons];split<;>simp;omega
    have HSP:=Lib.hid hsp;clear hsp hd
    cases hb:p s[j]
    · have HB:=Lib.hid hb;clear hb
      go_wp2_with fail
      go_ret
      refine ⟨Md ?_,rfl⟩
      rw [HJ.out,HSP.out,HB.out];simp
    · have HB:=Lib.hid hb;clear hb
      go_wp2_with fail
      go_round
      case rel=>exact ⟨j+1,by omega,by go_num,Lib.hid (by rw [HJ.out,HSP.out,HB.out];simp;omega)⟩
      case measure=>simp [intOf];omega
  · go_wp2_with fail
    go_ret
    refine ⟨Md ?_,rfl⟩
    rw [HJ.out,List.drop_eq_nil_of_le (by omega)];simp [GE];omega
theorem Sm (s:List UInt8) (n:Int) (hn:n.toNat=min 2 s.length):(⟨s.toArray⟩:ByteArray).extract 0 n.toNat=⟨(s.take 2).toArray⟩:=by
 apply ByteArray.ext
 rw [hn];simp only [ByteArray.data_extract]
 apply Array.ext'
 simp only [List.extract_toArray,List.extract_eq_take_drop,Nat.sub_zero,List.drop_zero]
 rcases Nat.le_total 2 s.length with h|h
 · rw [Nat.min_eq_left h]
 · rw [Nat.min_eq_right h,List.take_of_length_le h,List.take_length]
theorem Iy : ∀(l:List UInt8) (c:UInt8),-1≤Lib.indexByte l c
 | [],c=>by simp [Lib.indexByte]
 | b::l,c=>by
  have:=Iy l c
  unfold Lib.indexByte
  split
  · omega
  · split<;>omega
theorem Ft : ∀(l:List UInt8) (c:UInt8),(0≤Lib.indexByte l c)↔l.contains c=true
 | [],c=>by simp [Lib.indexByte]
 | b::l,c=>by
  have ih:=Ft l c;have hg:=Iy l c
  unfold Lib.indexByte
  rw [List.contains_cons]
  by_cases hb:b=c
  · simp [hb]
  · have hb' : ¬c=b:=fun e=>hb e.symm
    simp only [beq_iff_eq,hb,hb',if_false,Bool.or_eq_true,false_or,←ih]
    split<;>omega
theorem Vq (c:UInt8) (r:List UInt8) (w:World) (hs:(c::r).length≤9223372036854775807) :
 Calls prog 99 #[str (c::r)] w fun e w'=>e = .returned (.int .i64 (G0 (c::r)))∧w=w':=by
 simp only [List.length_cons] at hs;have hx:=Sm (c::r) (min 2 ((r.length:Int)+1)) (by simp only [List.length_cons];omega)
 have hsl:G0 (c::r)=if List.isPrefixOf [60,61,62] (c::r) then 3 else if pairs.contains ((c::r).take 2) then 2 else if singles.contains c then 1 else 0:=rfl
 have HSL:=Lib.hid hsl;clear hsl
 generalize (c::r).take 2=t at *
 cases h3:List.isPrefixOf [60,61,62] (c::r)
 · have H3:=Lib.hid h3;clear h3
   cases hp:pairs.contains t
   · have HP:=Lib.hid hp
     simp only [pairs,List.contains_cons,List.contains_nil,Bool.or_eq_false_iff,Bool.or_false] at hp;obtain ⟨p0,p1,p2,p3,p4,p5,p6,p7,p8,p9⟩:=hp
     go_enter func99,ntmps99
     go_wp2_with (go_at_call 121;refine (Tryz.strings_HasPrefix _ _ _).mono ?_;rintro e w' ⟨rfl,rfl⟩;rw [show Lib.hasPrefix (⟨(c::r).toArray⟩:ByteArray).data.toList (⟨#[60,61,62]⟩:ByteArray).data.toList=false from H3.out])
     refine (Tryz.strings_IndexByte _ _ _).mono ?_;rintro e w2 ⟨rfl,rfl⟩
     have e0:(((c.toNat:Nat):Int)).toNat.toUInt8=c:=by simp
     have e1 : ∀h,(((((⟨(c::r).toArray⟩:ByteArray)[0]'h).toNat:Nat):Int)).toNat.toUInt8=c:=fun _=>e0
     rw [e1];have hi:=Ft singles c;rw [show Lib.indexByte (⟨#[43,45,42,47,37,38,124,94,33,61,60,62,40,41,123,125,91,93,59,44]⟩:ByteArray).data.toList c=Lib.indexByte singles c from rfl]
     generalize Lib.indexByte singles c=ix at *
     cases hc:singles.contains c
     · have hlt:ix<0:=by rw [hc] at hi;simp at hi;omega
       have HC:=Lib.hid hc;clear hc hi
       simp only
       go_wp2_with fail
       go_ret
       rw [HSL.out,H3.out,HP.out,HC.out];exact ⟨rfl,rfl⟩
     · have hge:0≤ix:=hi.2 hc
       have HC:=Lib.hid hc;clear hc hi
       simp only
       go_wp2_with fail
       go_ret
       rw [HSL.out,H3.out,HP.out,HC.out];exact ⟨rfl,rfl⟩
   · go_enter func99,ntmps99
     go_wp2_with (go_at_call 121;refine (Tryz.strings_HasPrefix _ _ _).mono ?_;rintro e w' ⟨rfl,rfl⟩;rw [show Lib.hasPrefix (⟨(c::r).toArray⟩:ByteArray).data.toList (⟨#[60,61,62]⟩:ByteArray).data.toList=false from H3.out])
     all_goals first|(go_ret;rw [HSL.out,H3.out,hp];exact ⟨rfl,rfl⟩)|(exfalso;simp_all [pairs];done)
 · have H3:=Lib.hid h3;clear h3
   go_enter func99,ntmps99
   go_wp2_with (go_at_call 121;refine (Tryz.strings_HasPrefix _ _ _).mono ?_;rintro e w' ⟨rfl,rfl⟩;rw [show Lib.hasPrefix (⟨(c::r).toArray⟩:ByteArray).data.toList (⟨#[60,61,62]⟩:ByteArray).data.toList=true from H3.out])
   go_ret
   rw [HSL.out,H3.out];exact ⟨rfl,rfl⟩
def CH:List (List UInt8)→Nat→List MapEntry
 | [],_=>[]
 | k::r,i=>{ key:=str k,val:=.bool true,born:=i }::CH r (i+1)
def Et (ks:List (List UInt8)):Obj:=.map (CH ks 0).toArray ks.length
theorem Ka (ks:List (List UInt8)) (k:List UInt8) : ∀i,CH (ks++[k]) i=CH ks i++[{ key:=str k,val:=.bool true,born:=i+ks.length }]:=by
 induction ks with
 | nil=>intro i;simp [CH]
 | cons x r ih=>intro i;simp [CH,ih,Nat.add_assoc,Nat.add_comm 1]
theorem Vr (b:ByteArray) (x:List UInt8):(b==(⟨x.toArray⟩:ByteArray))=(b.data.toList==x):=by
 show (b.data==x.toArray)=_
 rw [Bool.eq_iff_iff];simp
 constructor
 · intro h;rw [h]
 · intro h;rw [←h]
theorem Hy (b:ByteArray) (ks:List (List UInt8)) : ∀i j,(ks.contains b.data.toList=false→Instr.findNow .string (.string b) (CH ks i) j=some none) ∧
 (ks.contains b.data.toList=true → ∃n,Instr.findNow .string (.string b) (CH ks i) j=some (some (n,.bool true))):=by
 induction ks with
 | nil=>intro i j;simp [CH,Instr.findNow]
 | cons x r ih=>
  intro i j;simp only [CH,Instr.findNow,Instr.sameNow,Vr,List.contains_cons]
  cases h:b.data.toList==x
  · simpa using ih (i+1) (j+1)
  · simp
theorem Sn (h:Array Obj) (a b:Obj):(h.push a).setIfInBounds h.size b=h.push b:=by
 apply Array.ext'
 simp
theorem Kb:prog.underlying 138=some (.map 9 4):=by kernel_rfl
theorem Fu:prog.underlying 9=some .string:=by kernel_rfl
theorem OB (w:World) (ks:List (List UInt8)) (b:ByteArray) (h:ks.contains b.data.toList=false) :
 (Instr.mapUpdate 138 (.map (some w.heap.size)) (.string b) (.bool true)).run prog (w.alloc (Et ks)) = .ok () (w.alloc (Et (ks++[b.data.toList]))):=by
 have hb:(w.alloc (Et ks)).heap[w.heap.size]? = some (.map (CH ks 0).toArray ks.length):=by show (w.heap.push (Et ks))[w.heap.size]? = _;simp [Et]
 have hf:Instr.findNow .string (.string b) (CH ks 0) 0=some none:=(Hy b ks 0 0).1 h;have hc:(Instr.checkKey false 10000 9 (.string b)).run prog (w.alloc (Et ks)) = .ok () (w.alloc (Et ks)):=MapKept.run_checkKey (k:=.string b) Fu (by simp [MapKept.IsKey]) false 9999
 simp [Instr.mapUpdate,AH Kb,MapKept.run_getObj_map hb,hc,MapKept.run_findKey Fu hf,MapKept.run_setObj_map _ hb,Result.andThen]
 show ({ w with heap:=(w.heap.push (Et ks)).setIfInBounds w.heap.size _ }:World)={ w with heap:=w.heap.push _ }
 rw [Sn]
 unfold Et
 rw [Ka]
 simp
theorem M2 (w:World) (ks:List (List UInt8)) (b:ByteArray) :
 (Instr.lookup 138 (.map (some w.heap.size)) (.string b) false).run prog (w.alloc (Et ks)) = .ok (.bool (ks.contains b.data.toList)) (w.alloc (Et ks)):=by
 have hb:(w.alloc (Et ks)).heap[w.heap.size]? = some (.map (CH ks 0).toArray ks.length):=by show (w.heap.push (Et ks))[w.heap.size]? = _;simp [Et]
 have hc : ∀q,(Instr.checkKey q 10000 9 (.string b)).run prog (w.alloc (Et ks)) = .ok () (w.alloc (Et ks)):=fun q=>MapKept.run_checkKey (k:=.string b) Fu (by simp [MapKept.IsKey]) q 9999
 have hz:(zeroValue 4).run prog (w.alloc (Et ks)) = .ok (.bool false) (w.alloc (Et ks)):=by kernel_rfl
 cases hk:ks.contains b.data.toList
 · have hf:=(Hy b ks 0 0).1 hk
   simp [Instr.lookup,AH Kb,MapKept.run_getObj_map hb,hc,MapKept.run_findKey Fu hf,hz,Result.andThen]
 · obtain ⟨n,hf⟩:=(Hy b ks 0 0).2 hk
   simp [Instr.lookup,AH Kb,MapKept.run_getObj_map hb,hc,MapKept.run_findKey Fu hf,Result.andThen]
theorem M3 (w:World):(Instr.makeMap 138 none).run prog w = .ok (.map (some w.heap.size)) (w.alloc (Et [])):=run_makeMap _ w
theorem M4 (s:List UInt8) (h:FH s=true):2≤s.length∧s.length≤7:=by
 have key : ∀k∈keywords,2≤k.length∧k.length≤7:=by decide
 exact key s (by simpa [FH] using h)
theorem Qu (s:List UInt8) (w:World) (hs:s.length≤9223372036854775807) :
 Calls prog 52 #[str s] w fun e w'=>e = .returned (.bool (FH s))∧Ext w w':=by
 by_cases h2:s.length<2∨7<s.length
 · have hk:FH s=false:=by
    cases h:FH s
    · rfl
    · have:=M4 s h;omega
   have HK:=Lib.hid hk;clear hk
   by_cases h3:s.length<2
   · have d1:decide ((s.length:Int)<2)=true:=by simp;omega
     clear h2
     go_enter func52,ntmps52
     go_wp2_with fail
     go_ret
     rw [HK.out];exact ⟨rfl,Ext.refl _⟩
   · have d1:decide ((s.length:Int)<2)=false:=by simp;omega
     have d2:decide ((7:Int)<s.length)=true:=by simp;omega
     clear h2
     go_enter func52,ntmps52
     go_wp2_with fail
     go_ret
     rw [HK.out];exact ⟨rfl,Ext.refl _⟩
 · have d1:decide ((s.length:Int)<2)=false:=by simp;omega
   have d2:decide ((7:Int)<s.length)=false:=by simp;omega
   have r1:=M3;have r2:=OB w;have r3:=M2 w
   go_enter func52,ntmps52
   go_wp2_with fail
   go_ret
   exact ⟨AO (by simp [FH,keywords]),(by refine Ext.alloc ?_ _;exact Ext.refl _)⟩
theorem So : ∀args w,(callFunc 96 args).run prog w = .ok (.enter 96 args) w:=enters_of func96 (by kernel_rfl) rfl
theorem Sq : ∀args w,(callFunc 97 args).run prog w = .ok (.enter 97 args) w:=enters_of func97 (by kernel_rfl) rfl
theorem Qv : ∀args w,(callFunc 95 args).run prog w = .ok (.enter 95 args) w:=enters_of func95 (by kernel_rfl) rfl
theorem Qw : ∀args w,(callFunc 98 args).run prog w = .ok (.enter 98 args) w:=enters_of func98 (by kernel_rfl) rfl
theorem PI (c:UInt8) (r:List UInt8) (w:World) (hs:(c::r).length≤9223372036854775807) :
 Calls prog 51 #[str (c::r)] w fun e w'=>e = .returned (.tuple #[.int .u8 (Bh (c::r)).1,.int .i64 (Bh (c::r)).2])∧w=w':=by
 have hf:Bh (c::r)=if Fo c then (1,GE Ip (c::r)) else if De c then (2,GE De (c::r)) else if Hg c then (4,GE Hg (c::r)) else if c=35 then (5,GE MY (c::r)) else (3,G0 (c::r)):=rfl
 have HF:=Lib.hid hf;clear hf
 have HS:=Lib.hid hs;simp only [List.length_cons] at hs
 go_enter func51,ntmps51
 go_wp2_with fail
 refine (M1 c _).mono ?_;rintro e w1 ⟨rfl,rfl⟩
 cases hl:Fo c
 · have HL:=Lib.hid hl;clear hl
   simp only
   go_wp2_with fail
   refine (Me c _).mono ?_;rintro e w1 ⟨rfl,rfl⟩
   cases hd:De c
   · have HD:=Lib.hid hd;clear hd
     simp only
     go_wp2_with fail
     refine (PH c _).mono ?_;rintro e w1 ⟨rfl,rfl⟩
     cases hb:Hg c
     · have HB:=Lib.hid hb;clear hb
       simp only
       by_cases h35:c=35
       · have H35:=Lib.hid h35
         have e35:(({ data:=(c::r).toArray }:ByteArray)[0]'(by simp [ByteArray.size])).toNat=35:=by show c.toNat=35;rw [h35];rfl
         clear h35
         go_wp2_with fail
         refine (Mf 98 MY T0 Qw _ _ HS.out).mono ?_;rintro e w1 ⟨rfl,rfl⟩;simp only
         go_wp2_with fail
         go_ret2
         rw [HF.out,HL.out,HD.out,HB.out,if_pos H35.out];exact ⟨rfl,rfl⟩
       · have H35:=Lib.hid h35
         have e35:((({ data:=(c::r).toArray }:ByteArray)[0]'(by simp [ByteArray.size])).toNat:Int)≠35:=by
          show (c.toNat:Int)≠35
          intro h;apply h35;apply UInt8.toNat_inj.1;show c.toNat=35;omega
         clear h35
         go_wp2_with fail
         refine (Vq c r _ HS.out).mono ?_;rintro e w1 ⟨rfl,rfl⟩;simp only
         go_wp2_with fail
         go_ret2
         rw [HF.out,HL.out,HD.out,HB.out,if_neg H35.out];exact ⟨rfl,rfl⟩
     · have HB:=Lib.hid hb;clear hb
       simp only
       go_wp2_with fail
       refine (Mf 97 Hg PH Sq _ _ HS.out).mono ?_;rintro e w1 ⟨rfl,rfl⟩;simp only
       go_wp2_with fail
       go_ret2
       rw [HF.out,HL.out,HD.out,HB.out];exact ⟨rfl,rfl⟩
   · have HD:=Lib.hid hd;clear hd
     simp only
     go_wp2_with fail
     refine (Mf 96 De Me So _ _ HS.out).mono ?_;rintro e w1 ⟨rfl,rfl⟩;simp only
     go_wp2_with fail
     go_ret2
     rw [HF.out,HL.out,HD.out];exact ⟨rfl,rfl⟩
 · have HL:=Lib.hid hl;clear hl
   simp only
   go_wp2_with fail
   refine (Mf 95 Ip Qt Qv _ _ HS.out).mono ?_;rintro e w1 ⟨rfl,rfl⟩;simp only
   go_wp2_with fail
   go_ret2
   rw [HF.out,HL.out];exact ⟨rfl,rfl⟩
theorem Hz (s:List UInt8) (w:World) (hs:s.length≤9223372036854775807) :
 Calls prog 24 #[str s] w fun e w'=>e = .returned (.bool (CA s))∧Ext w w':=by
 cases s with
 | nil=>
  go_enter func24,ntmps24
  go_wp2_with fail
  go_ret
  exact ⟨rfl,Ext.refl _⟩
 | cons c r=>
  have hn:CA (c::r)=(decide ((c::r).length≤16)&&((Bh (c::r)).1==1)&&((Bh (c::r)).2==(c::r).length) && !FH (c::r)):=by simp [CA]
  have HN:=Lib.hid hn;clear hn
  have HS:=Lib.hid hs;simp only [List.length_cons] at hs
  by_cases h16:16<(c::r).length
  · simp only [List.length_cons] at h16
    have d1:decide ((16:Int)<(r.length:Int)+1)=true:=by simp;omega
    have H16:=Lib.hid h16;clear h16
    go_enter func24,ntmps24
    go_wp2_with fail
    go_ret
    rw [HN.out]
    exact ⟨AO (by have:=H16.out;simp;omega),Ext.refl _⟩
  · simp only [List.length_cons] at h16
    have d1:decide ((16:Int)<(r.length:Int)+1)=false:=by simp;omega
    go_enter func24,ntmps24
    go_wp2_with fail
    refine (PI c r _ HS.out).mono ?_;rintro e w1 ⟨rfl,rfl⟩
    generalize Bh (c::r)=ft at *
    obtain ⟨k,n⟩:=ft
    by_cases hk:k=1
    · by_cases hl:n=(c::r).length
      · subst hk hl
        simp only [List.length_cons]
        go_wp2_with fail
        refine (Qu _ _ HS.out).mono ?_;rintro e w2 ⟨rfl,hx⟩;simp only
        go_wp2_with fail
        go_ret
        rw [HN.out]
        exact ⟨AO (by simp;omega),hx⟩
      · subst hk
        have dl:((n:Int)==(r.length:Int)+1)=false:=by simp only [List.length_cons] at hl;rw [beq_eq_false_iff_ne];omega
        have HL:=Lib.hid hl;clear hl
        simp only
        go_wp2_with fail
        go_ret
        rw [HN.out]
        exact ⟨AO (by have:=HL.out;simp at this ⊢;simp [this]),Ext.refl _⟩
    · have dk:((k:Int)==1)=false:=by rw [beq_eq_false_iff_ne];omega
      have HK:=Lib.hid hk;clear hk
      simp only
      go_wp2_with fail
      go_ret
      rw [HN.out]
      exact ⟨AO (by have:=HK.out;simp [this]),Ext.refl _⟩
theorem DA (k n:Int) (s:List UInt8) (a:Option Addr) (l c:Nat) (w:World) :
 Calls prog 85 #[.agg #[.int .u8 k,.int .i64 n,str s,.slice a l c]] w fun e w'=>e = .returned (.bool (plain n s))∧Ext w w':=by
 go_enter func85,ntmps85
 go_wp2_with fail
 all_goals go_ret
 all_goals exact ⟨AO (by unfold plain;simp [*]),(by repeat (first|exact Ext.refl _|assumption|refine Ext.alloc ?_ _|refine Ext.drew ?_|refine Ext.trans ?_ ‹_›))⟩
theorem D3 (k n:Int) (s:List UInt8) (a:Option Addr) (l c:Nat) (w:World) (hs:s.length≤9223372036854775807) :
 Calls prog 89 #[.agg #[.int .u8 k,.int .i64 n,str s,.slice a l c]] w fun e w'=>e = .returned (.bool (Cr n s))∧Ext w w':=by
 by_cases h0:n=0
 · subst h0
   go_enter func89,ntmps89
   go_wp2_with (go_at_call 24;refine (Hz _ _ hs).mono ?_;rintro e w2 ⟨rfl,hx⟩)
   go_ret
   exact ⟨AO (by simp [Cr]),(by refine Ext.trans ?_ ‹_›;refine Ext.alloc ?_ _;exact Ext.refl _)⟩
 · have d0:(n==0)=false:=by simp [h0]
   go_enter func89,ntmps89
   go_wp2_with fail
   go_ret
   exact ⟨AO (by simp [Cr,h0]),(by refine Ext.alloc ?_ _;exact Ext.refl _)⟩
def Ba (S:Nat→Prop) (f:FuncId) (p:Nd→Bool) (t:Nd):Prop:=
 ∀(a:Option Addr) (c:Nat) (w:World),t.sits S w a→Calls prog f #[t.val a c] w fun e w'=>e = .returned (.bool (p t))∧Ext w w'
def Gn (f:FuncId):Prop:= ∀args w,(callFunc f args).run prog w = .ok (.enter f args) w
theorem Mg (f:FuncId) (p:Nd→Bool) (he:Gn f) (l:List Nd) (a:Option Addr) (c:Nat) (S:Nat→Prop) (w:World) (hl:l.length≤9223372036854775807) (hs:rowSits S w l a) (ht : ∀t∈l,Ba S f p t) :
 Calls prog 90 #[.slice a l.length c,.func (.func f) #[] #[]] w fun e w'=>e = .returned (.bool (l.all p))∧Ext w w':=by
 have HT:=Lib.hid ht;clear ht
 unfold Gn at he
 go_enter func90,ntmps90
 go_wp2_with fail
 go_loopw [9] (fun i wr=> ∃j:Nat,j≤l.length∧i = .int .i64 j∧Hid (l.all p=(l.drop j).all p)∧Ext w wr) (fun i _=>l.length-(intOf i).toNat)
 case atStart=>exact ⟨0,Nat.zero_le _,rfl,Lib.hid rfl,Ext.refl _⟩
 case round=>
  obtain ⟨j,hj,rfl,HJ,hx⟩:=hrel
  by_cases hlt:j<l.length
  · have hg:l[j]? = some l[j]:=List.getElem?_eq_getElem hlt
    have hmem:l[j]∈l:=List.getElem_mem hlt;have hdrop:=List.drop_eq_getElem_cons hlt
    generalize l[j]=t at *
    obtain ⟨b,o,a',c',rfl,hSb,g0,g1,g2,g3,hsk⟩:=ER (hs.ext hx) hg
    have HG:=Lib.hid hg;clear hg
    have hall:l.all p=(p t&&(l.drop (j+1)).all p):=by rw [HJ.out,hdrop,List.all_cons]
    have HA:=Lib.hid hall;clear hdrop hall
    go_wp2_with fail
    refine (HT.out t hmem a' c' _ (hsk.ext ((Ext.refl _).alloc _))).mono ?_;rintro e w1 ⟨rfl,hx1⟩
    cases hp:p t
    · have HP:=Lib.hid hp;clear hp
      simp only
      go_wp2_with fail
      go_ret
      rw [HA.out,HP.out]
      exact ⟨rfl,(by refine Ext.trans ?_ ‹_›;refine Ext.alloc ?_ _;assumption)⟩
    · have HP:=Lib.hid hp;clear hp
      simp only
      go_wp2_with fail
      go_roundw
      case rel=>exact ⟨j+1,by omega,by go_num,Lib.hid (by rw [HA.out,HP.out];simp),(by refine Ext.trans ?_ ‹_›;refine Ext.alloc ?_ _;assumption)⟩
      case measure=>simp [intOf];omega
  · go_wp2_with fail
    go_ret
    rw [HJ.out,List.drop_eq_nil_of_le (by omega)]
    exact ⟨rfl,hx⟩
def By:List Nd→List (FuncId×(Nd→Bool))→Bool
 | [],[]=>true
 | t::r,f::fs=>f.2 t&&By r fs
 | _,_=>false
theorem Kc : ∀(l:List Nd) (fs:List (FuncId×(Nd→Bool))),l.length≠fs.length→By l fs=false
 | [],[],h=>absurd rfl h
 | [],_::_,_=>rfl
 | _::_,[],_=>rfl
 | t::r,f::fs,h=>by simp only [By];rw [Kc r fs (by simpa using h)];simp
theorem Dw (k n:Int) (s:List UInt8) (l:List Nd) (a:Option Addr) (c:Nat) (fs:List (FuncId×(Nd→Bool))) (tb tc:Nat) (S:Nat→Prop) (w:World)
 (hl:l.length≤9223372036854775807) (hfl:fs.length≤100) (hs:rowSits S w l a)
 (htb : ∀i f,fs[i]? = some f→w.cell? ⟨tb,i,none⟩=some (.func (.func f.1) #[] #[])) (he : ∀f∈fs,Gn f.1) (ht : ∀f∈fs,∀t∈l,Ba S f.1 f.2 t) :
 Calls prog 86 #[.agg #[.int .u8 k,.int .i64 n,str s,.slice a l.length c],.slice (some ⟨tb,0,none⟩) fs.length tc] w fun e w'=>e = .returned (.bool (By l fs))∧Ext w w':=by
 have HT:=Lib.hid ht;clear ht
 have HE:=Lib.hid he;clear he
 have HB:=Lib.hid htb;clear htb
 by_cases hlen:l.length=fs.length
 · have dn:((l.length:Int) != (fs.length:Int))=false:=by rw [hlen];simp
   have HL:=Lib.hid hlen
   have hlen1:l.length≤fs.length:=by omega
   have hlen2:fs.length≤l.length:=by omega
   clear hlen
   go_enter func86,ntmps86
   go_wp2_with fail
   go_loopw [15] (fun i wr=> ∃j:Nat,j≤fs.length∧i = .int .i64 j∧Hid (By l fs=By (l.drop j) (fs.drop j))∧Ext (w.alloc (.cells #[.int .u8 k,.int .i64 n,str s,.slice a l.length c] 26)) wr) (fun i _=>fs.length-(intOf i).toNat)
   case atStart=>exact ⟨0,Nat.zero_le _,rfl,Lib.hid rfl,Ext.refl _⟩
   case round=>
    obtain ⟨j,hj,rfl,HJ,hx⟩:=hrel;have hcs:=hx.cells
    by_cases hlt:j<fs.length
    · have hlt':j<l.length:=by omega
      have hg:l[j]? = some l[j]:=List.getElem?_eq_getElem hlt';have hmem:l[j]∈l:=List.getElem_mem hlt';have hdrop:=List.drop_eq_getElem_cons hlt';have hgf:fs[j]? = some fs[j]:=List.getElem?_eq_getElem hlt;have hmemf:fs[j]∈fs:=List.getElem_mem hlt;have hdropf:=List.drop_eq_getElem_cons hlt
      generalize l[j]=t at *
      generalize fs[j]=f at *
      have hxx:Ext w wr:=Ext.trans ((Ext.refl _).alloc _) hx;obtain ⟨b,o,a',c',rfl,hSb,g0,g1,g2,g3,hsk⟩:=ER (hs.ext hxx) hg
      have HG:=Lib.hid hg;clear hg
      have ht0:=hxx.keep (HB.out j f hgf)
      have HGF:=Lib.hid hgf;clear hgf
      have hall:By l fs=(f.2 t&&By (l.drop (j+1)) (fs.drop (j+1))):=by rw [HJ.out,hdrop,hdropf];rfl
      have HA:=Lib.hid hall;clear hdrop hall hdropf
      have hen:=HE.out f hmemf
      unfold Gn at hen
      go_wp2_with fail
      refine (HT.out f hmemf t hmem a' c' _ hsk).mono ?_;rintro e w1 ⟨rfl,hx1⟩
      cases hp:f.2 t
      · have HP:=Lib.hid hp;clear hp
        simp only
        go_wp2_with fail
        go_ret
        rw [HA.out,HP.out]
        exact ⟨rfl,(by refine Ext.trans ?_ ‹_›;assumption)⟩
      · have HP:=Lib.hid hp;clear hp
        simp only
        go_wp2_with fail
        go_roundw
        case rel=>exact ⟨j+1,by omega,by go_num,Lib.hid (by rw [HA.out,HP.out];simp),(by refine Ext.trans ?_ ‹_›;assumption)⟩
        case measure=>simp [intOf];omega
    · go_wp2_with fail
      go_ret
      rw [HJ.out,List.drop_eq_nil_of_le (by omega),List.drop_eq_nil_of_le (by omega)]
      exact ⟨rfl,(by refine Ext.trans ?_ ‹_›;refine Ext.alloc ?_ _;exact Ext.refl _)⟩
 · have dn:((l.length:Int) != (fs.length:Int))=true:=by rw [bne_iff_ne];omega
   have hk:=Kc l fs hlen
   have HK:=Lib.hid hk;clear hk hlen
   go_enter func86,ntmps86
   go_wp2_with fail
   go_ret
   rw [HK.out]
   exact ⟨rfl,(by refine Ext.alloc ?_ _;exact Ext.refl _)⟩
theorem Mh {α:Type} {Q:Nat→α→Prop} {x:α} (h:Q 0 x) : ∀i f,[x][i]? = some f→Q i f:=by
 intro i f hf
 rcases i with _|i
 · simp at hf;exact hf▸h
 · simp at hf
theorem Qx {α:Type} {Q:Nat→α→Prop} {x y:α} (h:Q 0 x) (h1:Q 1 y) : ∀i f,[x,y][i]? = some f→Q i f:=by
 intro i f hf
 rcases i with _|_|i
 · simp at hf;exact hf▸h
 · simp at hf;exact hf▸h1
 · simp at hf
theorem WQ {α:Type} {Q:Nat→α→Prop} {x y z:α} (h:Q 0 x) (h1:Q 1 y) (h2:Q 2 z) : ∀i f,[x,y,z][i]? = some f→Q i f:=by
 intro i f hf
 rcases i with _|_|_|i
 · simp at hf;exact hf▸h
 · simp at hf;exact hf▸h1
 · simp at hf;exact hf▸h2
 · simp at hf
theorem Wd {α:Type} {Q:Nat→α→Prop} {x y z u:α} (h:Q 0 x) (h1:Q 1 y) (h2:Q 2 z) (h3:Q 3 u) : ∀i f,[x,y,z,u][i]? = some f→Q i f:=by
 intro i f hf
 rcases i with _|_|_|_|i
 · simp at hf;exact hf▸h
 · simp at hf;exact hf▸h1
 · simp at hf;exact hf▸h2
 · simp at hf;exact hf▸h3
 · simp at hf
theorem Gz {α:Type} {Q:α→Prop} {x:α} (h:Q x) : ∀f∈[x],Q f:=by intro f hf;simp at hf;exact hf▸h
theorem JC {α:Type} {Q:α→Prop} {x y:α} (h:Q x) (h1:Q y) : ∀f∈[x,y],Q f:=by
 intro f hf;simp at hf;rcases hf with rfl|rfl<;>assumption
theorem We {α:Type} {Q:α→Prop} {x y z:α} (h:Q x) (h1:Q y) (h2:Q z) : ∀f∈[x,y,z],Q f:=by
 intro f hf;simp at hf;rcases hf with rfl|rfl|rfl<;>assumption
theorem T1 {α:Type} {Q:α→Prop} {x y z u:α} (h:Q x) (h1:Q y) (h2:Q z) (h3:Q u) : ∀f∈[x,y,z,u],Q f:=by
 intro f hf;simp at hf;rcases hf with rfl|rfl|rfl|rfl<;>assumption
theorem Cu:Gn 88:=enters_of func88 (by kernel_rfl) rfl
theorem M5 (n:Int) (s:List UInt8) (l:List Nd):(Nd.mk 1 n s l).isExpr=(decide (0≤n)&&s.isEmpty&&l.isEmpty):=by rw [Nd.isExpr.eq_def];simp
theorem M6 (k n:Int) (s:List UInt8) (l:List Nd) (h:k=2∨k=4∨k=5):(Nd.mk k n s l).isExpr=(Cr n s&&l.isEmpty):=by
 rcases h with rfl|rfl|rfl<;>rw [Nd.isExpr.eq_def]<;>simp
theorem M7 (f:FuncId) (n:Int) (s:List UInt8) (l:List Nd):(Nd.mk 3 n s l).isExpr=(Cr n s&&By l [(f,Nd.isExpr)]):=by
 rcases l with _|⟨x,_|⟨y,l⟩⟩<;>rw [Nd.isExpr.eq_def]<;>simp [By]
theorem Qz (f:FuncId) (k n:Int) (s:List UInt8) (l:List Nd) (h:k=6∨k=7):(Nd.mk k n s l).isExpr=(plain n s&&By l [(f,Nd.isExpr)]):=by
 rcases l with _|⟨x,_|⟨y,l⟩⟩<;>rcases h with rfl|rfl<;>rw [Nd.isExpr.eq_def]<;>simp [By]
theorem OC (f:FuncId) (k n:Int) (s:List UInt8) (l:List Nd) (h:8≤k) (h':k≤23):(Nd.mk k n s l).isExpr=(plain n s&&By l [(f,Nd.isExpr),(f,Nd.isExpr)]):=by
 have e1 : ¬k=1:=by omega
 have e2 : ¬(k=2∨k=4∨k=5):=by omega
 have e3 : ¬k=3:=by omega
 have e4 : ¬(k=6∨k=7):=by omega
 rcases l with _|⟨x,_|⟨y,_|⟨z,l⟩⟩⟩<;>rw [Nd.isExpr.eq_def]<;>simp [By,e1,e2,e3,e4,h,h']
theorem M8 (k n:Int) (s:List UInt8) (l:List Nd) (h:k<1∨23<k):(Nd.mk k n s l).isExpr=false:=by
 have e1 : ¬k=1:=by omega
 have e2 : ¬(k=2∨k=4∨k=5):=by omega
 have e3 : ¬k=3:=by omega
 have e4 : ¬(k=6∨k=7):=by omega
 have e5 : ¬(8≤k∧k≤23):=by omega
 rw [Nd.isExpr.eq_def];simp [e1,e2,e3,e4,e5]
theorem Sr (S:Nat→Prop) (N:Nat) : ∀t:Nd,t.size<N→t.wf→Ba S 88 Nd.isExpr t:=by
 induction N with
 | zero=>intro t h;omega
 | succ N ih=>
  rintro ⟨k,n,s,l⟩ hN hwf a c w hs;simp only [Nd.wf,Nd.size,Nd.sits,Nd.kind,Nd.num,Nd.name,Nd.kids,Nd.val] at *;obtain ⟨hk0,hk1,hn0,hn1,hsl,hll,hrw⟩:=hwf
  have hkid : ∀t∈l,Ba S 88 Nd.isExpr t:=fun t ht=>ih t (by have:=DE ht;omega) (AG hrw t ht)
  have HKID:=Lib.hid hkid;clear hkid ih hrw
  have HSL:=Lib.hid hsl;clear hsl
  by_cases c1:k=1
  · subst c1
    have hr:=M5 n s l
    have HR:=Lib.hid hr;clear hr
    go_enter func88,ntmps88
    go_wp2_with fail
    all_goals go_ret
    all_goals rw [HR.out]
    all_goals exact ⟨AO (by rw [Bool.eq_iff_iff];first|(simp [*];done)|(simp [*];intros;omega)),(by repeat (first|exact Ext.refl _|assumption|refine Ext.alloc ?_ _|refine Ext.drew ?_|refine Ext.trans ?_ ‹_›))⟩
  by_cases c2:k=2∨k=4∨k=5
  · have hr:=M6 k n s l c2
    have HR:=Lib.hid hr;clear hr
    cases hnm:Cr n s
    all_goals have HNM:=Lib.hid hnm;clear hnm
    all_goals rcases c2 with rfl|rfl|rfl
    all_goals go_enter func88,ntmps88
    all_goals go_wp2_with (go_at_call 89;refine (D3 _ _ _ _ _ _ _ HSL.out).mono ?_;rintro e w1 ⟨rfl,hx1⟩;have hc1:=hx1.cells;rw [HNM.out])
    all_goals go_ret
    all_goals rw [HR.out,HNM.out]
    all_goals exact ⟨AO (by first|rfl|(rw [Bool.eq_iff_iff];simp)),(by repeat (first|exact Ext.refl _|assumption|refine Ext.alloc ?_ _|refine Ext.drew ?_|refine Ext.trans ?_ ‹_›))⟩
  by_cases c3:k=3
  · subst c3
    have hr:=M7 88 n s l
    have HR:=Lib.hid hr;clear hr
    cases hnm:Cr n s
    all_goals have HNM:=Lib.hid hnm;clear hnm
    all_goals go_enter func88,ntmps88
    all_goals go_wp2_with (first|(go_at_call 89;refine (D3 _ _ _ _ _ _ _ HSL.out).mono ?_;rintro e w1 ⟨rfl,hx1⟩;have hc1:=hx1.cells;rw [HNM.out])|(go_at_call 86;refine (Dw _ _ _ l a c [(88,Nd.isExpr)] _ _ S _ hll (by decide) (hs.ext (by refine Ext.alloc ?_ _;refine Ext.trans ?_ ‹_›;refine Ext.alloc ?_ _;exact Ext.refl _)) (Mh (by go_simp)) (Gz Cu) (Gz HKID.out)).mono ?_;rintro e w2 ⟨rfl,hx2⟩))
    all_goals go_ret
    all_goals rw [HR.out,HNM.out]
    all_goals exact ⟨AO (by simp),(by repeat (first|exact Ext.refl _|assumption|refine Ext.alloc ?_ _|refine Ext.drew ?_|refine Ext.trans ?_ ‹_›))⟩
  by_cases c4:k=6∨k=7
  · have hr:=Qz 88 k n s l c4
    have HR:=Lib.hid hr;clear hr
    cases hnm:plain n s
    all_goals have HNM:=Lib.hid hnm;clear hnm
    all_goals rcases c4 with rfl|rfl
    all_goals go_enter func88,ntmps88
    all_goals go_wp2_with (first|(go_at_call 85;refine (DA _ _ _ _ _ _ _).mono ?_;rintro e w1 ⟨rfl,hx1⟩;have hc1:=hx1.cells;rw [HNM.out])|(go_at_call 86;refine (Dw _ _ _ l a c [(88,Nd.isExpr)] _ _ S _ hll (by decide) (hs.ext (by repeat (first|exact Ext.refl _|assumption|refine Ext.alloc ?_ _|refine Ext.drew ?_|refine Ext.trans ?_ ‹_›))) (Mh (by go_simp)) (Gz Cu) (Gz HKID.out)).mono ?_;rintro e w2 ⟨rfl,hx2⟩))
    all_goals go_ret
    all_goals rw [HR.out,HNM.out]
    all_goals exact ⟨AO (by simp),(by repeat (first|exact Ext.refl _|assumption|refine Ext.alloc ?_ _|refine Ext.drew ?_|refine Ext.trans ?_ ‹_›))⟩
  by_cases c5:8≤k∧k≤23
  · obtain ⟨c5a,c5b⟩:=c5
    have d1:(k==1)=false:=by rw [beq_eq_false_iff_ne];omega
    have d2:(k==2)=false:=by rw [beq_eq_false_iff_ne];omega
    have d3:(k==3)=false:=by rw [beq_eq_false_iff_ne];omega
    have d4:(k==4)=false:=by rw [beq_eq_false_iff_ne];omega
    have d5:(k==5)=false:=by rw [beq_eq_false_iff_ne];omega
    have d6:(k==6)=false:=by rw [beq_eq_false_iff_ne];omega
    have d7:(k==7)=false:=by rw [beq_eq_false_iff_ne];omega
    clear c1 c2 c3 c4;have hr:=OC 88 k n s l c5a c5b
    have HR:=Lib.hid hr;clear hr
    cases hnm:plain n s
    all_goals have HNM:=Lib.hid hnm;clear hnm
    all_goals go_enter func88,ntmps88
    all_goals go_wp2_with (first|(go_at_call 85;refine (DA _ _ _ _ _ _ _).mono ?_;rintro e w1 ⟨rfl,hx1⟩;have hc1:=hx1.cells;rw [HNM.out])|(go_at_call 86;refine (Dw _ _ _ l a c [(88,Nd.isExpr),(88,Nd.isExpr)] _ _ S _ hll (by decide) (hs.ext (by refine Ext.alloc ?_ _;refine Ext.trans ?_ ‹_›;refine Ext.alloc ?_ _;exact Ext.refl _)) (Qx (by go_simp) (by go_simp)) (JC Cu Cu) (JC HKID.out HKID.out)).mono ?_;rintro e w2 ⟨rfl,hx2⟩))
    all_goals go_ret
    all_goals rw [HR.out,HNM.out]
    all_goals exact ⟨AO (by simp),(by repeat (first|exact Ext.refl _|assumption|refine Ext.alloc ?_ _|refine Ext.drew ?_|refine Ext.trans ?_ ‹_›))⟩
  · have hr:=M8 k n s l (by omega)
    have HR:=Lib.hid hr;clear hr
    have d1:(k==1)=false:=by rw [beq_eq_false_iff_ne];omega
    have d2:(k==2)=false:=by rw [beq_eq_false_iff_ne];omega
    have d3:(k==3)=false:=by rw [beq_eq_false_iff_ne];omega
    have d4:(k==4)=false:=by rw [beq_eq_false_iff_ne];omega
    have d5:(k==5)=false:=by rw [beq_eq_false_iff_ne];omega
    have d6:(k==6)=false:=by rw [beq_eq_false_iff_ne];omega
    have d7:(k==7)=false:=by rw [beq_eq_false_iff_ne];omega
    clear c1 c2 c3 c4
    go_enter func88,ntmps88
    go_wp2_with fail
    all_goals go_ret
    all_goals rw [HR.out]
    all_goals exact ⟨AO (by first|rfl|(simp;omega)),(by repeat (first|exact Ext.refl _|assumption|refine Ext.alloc ?_ _|refine Ext.drew ?_|refine Ext.trans ?_ ‹_›))⟩
theorem Cw:Gn 87:=enters_of func87 (by kernel_rfl) rfl
theorem M9:Gn 91:=enters_of func91 (by kernel_rfl) rfl
theorem QA:Gn 47:=enters_of func47 (by kernel_rfl) rfl
theorem EF:Gn 48:=enters_of func48 (by kernel_rfl) rfl
theorem B8 (S:Nat→Prop) (t:Nd) (h:t.wf):Ba S 88 Nd.isExpr t:=Sr S (t.size+1) t (by omega) h
theorem BX (S:Nat→Prop) (t:Nd) (h:t.wf):Ba S 87 Nd.isPlace t:=by
 have HE:=Lib.hid (B8 S t h);intro a c w hs;obtain ⟨k,n,s,l⟩:=t;have hr:(Nd.mk k n s l).isPlace=((k==2||k==3)&&(Nd.mk k n s l).isExpr):=rfl
 have HR:=Lib.hid hr;clear hr
 have HSI:=Lib.hid hs;clear hs h
 simp only [Nd.kind,Nd.num,Nd.name,Nd.kids,Nd.val]
 by_cases h2:k=2∨k=3
 · rcases h2 with rfl|rfl
   all_goals go_enter func87,ntmps87
   all_goals go_wp2_with (go_at_call 88;refine (HE.out a c _ (HSI.out.ext (by repeat (first|exact Ext.refl _|assumption|refine Ext.alloc ?_ _|refine Ext.drew ?_|refine Ext.trans ?_ ‹_›)))).mono ?_;rintro e w1 ⟨rfl,hx1⟩)
   all_goals go_ret
   all_goals rw [HR.out]
   all_goals exact ⟨AO (by simp),(by repeat (first|exact Ext.refl _|assumption|refine Ext.alloc ?_ _|refine Ext.drew ?_|refine Ext.trans ?_ ‹_›))⟩
 · have d2:(k==2)=false:=by rw [beq_eq_false_iff_ne];omega
   have d3:(k==3)=false:=by rw [beq_eq_false_iff_ne];omega
   clear h2
   go_enter func87,ntmps87
   go_wp2_with fail
   go_ret
   rw [HR.out]
   exact ⟨AO (by simp [d2,d3]),(by refine Ext.alloc ?_ _;exact Ext.refl _)⟩
theorem CQ (S:Nat→Prop) (t:Nd) (h:t.wf):Ba S 91 Nd.isVar t:=by
 have HE:=Lib.hid (B8 S t h);intro a c w hs;obtain ⟨k,n,s,l⟩:=t;have hr:(Nd.mk k n s l).isVar=(k==2&&(Nd.mk k n s l).isExpr):=rfl
 have HR:=Lib.hid hr;clear hr
 have HSI:=Lib.hid hs;clear hs h
 simp only [Nd.kind,Nd.num,Nd.name,Nd.kids,Nd.val]
 by_cases h2:k=2
 · subst h2
   go_enter func91,ntmps91
   go_wp2_with (go_at_call 88;refine (HE.out a c _ (HSI.out.ext (by refine Ext.alloc ?_ _;exact Ext.refl _))).mono ?_;rintro e w1 ⟨rfl,hx1⟩)
   go_ret
   rw [HR.out]
   exact ⟨AO (by simp),(by refine Ext.trans ?_ ‹_›;refine Ext.alloc ?_ _;exact Ext.refl _)⟩
 · have d2:(k==2)=false:=by rw [beq_eq_false_iff_ne];omega
   clear h2
   go_enter func91,ntmps91
   go_wp2_with fail
   go_ret
   rw [HR.out]
   exact ⟨AO (by simp [d2]),(by refine Ext.alloc ?_ _;exact Ext.refl _)⟩
theorem QB (n:Int) (s:List UInt8) (l:List Nd):(Nd.mk 40 n s l).isStmt=(plain n s&&By l [(87,Nd.isPlace),(88,Nd.isExpr)]):=by
 rcases l with _|⟨x,_|⟨y,_|⟨z,_|⟨u,_|⟨v,l⟩⟩⟩⟩⟩<;>rw [Nd.isStmt.eq_def]<;>simp [By,Bool.and_assoc]
theorem QC (n:Int) (s:List UInt8) (l:List Nd) (a:Option Addr) (c:Nat) (S:Nat→Prop) (w:World)
 (hs:rowSits S w l a) (hsl:s.length≤9223372036854775807) (hll:l.length≤9223372036854775807) (hrw:Co l) (hb : ∀t∈l,Ba S 48 Nd.isBlock t) :
 Calls prog 47 #[.agg #[.int .u8 40,.int .i64 n,str s,.slice a l.length c]] w fun e w'=>e = .returned (.bool (Nd.mk 40 n s l).isStmt)∧Ext w w':=by
 have HEX:Hid (∀t∈l,Ba S 88 Nd.isExpr t):=Lib.hid fun t ht=>B8 S t (AG hrw t ht)
 have HPL:Hid (∀t∈l,Ba S 87 Nd.isPlace t):=Lib.hid fun t ht=>BX S t (AG hrw t ht)
 have HVA:Hid (∀t∈l,Ba S 91 Nd.isVar t):=Lib.hid fun t ht=>CQ S t (AG hrw t ht)
 have HBL:=Lib.hid hb;clear hb
 have HSL:=Lib.hid hsl;clear hsl hrw
 have hr:=QB n s l
 have HR:=Lib.hid hr;clear hr
 cases hnm:plain n s
 all_goals have HNM:=Lib.hid hnm;clear hnm
 all_goals go_enter func47,ntmps47
 all_goals go_wp2_with (first|(go_at_call 85;refine (DA _ _ _ _ _ _ _).mono ?_;rintro e w1 ⟨rfl,hx1⟩;have hc1:=hx1.cells;rw [HNM.out])|(go_at_call 86;refine (Dw _ _ _ l a c [(87,Nd.isPlace),(88,Nd.isExpr)] _ _ S _ hll (by decide) (hs.ext (by refine Ext.alloc ?_ _;refine Ext.trans ?_ ‹_›;refine Ext.alloc ?_ _;exact Ext.refl _)) (Qx (by go_simp) (by go_simp)) (JC Cw Cu) (JC HPL.out HEX.out)).mono ?_;rintro e w2 ⟨rfl,hx2⟩))
 all_goals go_ret
 all_goals rw [HR.out,HNM.out]
 all_goals exact ⟨AO (by simp),(by repeat (first|exact Ext.refl _|assumption|refine Ext.alloc ?_ _|refine Ext.drew ?_|refine Ext.trans ?_ ‹_›))⟩
theorem QD (n:Int) (s:List UInt8) (l:List Nd):(Nd.mk 41 n s l).isStmt=(plain n s&&By l [(87,Nd.isPlace),(88,Nd.isExpr)]):=by
 rcases l with _|⟨x,_|⟨y,_|⟨z,_|⟨u,_|⟨v,l⟩⟩⟩⟩⟩<;>rw [Nd.isStmt.eq_def]<;>simp [By,Bool.and_assoc]
theorem QE (n:Int) (s:List UInt8) (l:List Nd) (a:Option Addr) (c:Nat) (S:Nat→Prop) (w:World)
 (hs:rowSits S w l a) (hsl:s.length≤9223372036854775807) (hll:l.length≤9223372036854775807) (hrw:Co l) (hb : ∀t∈l,Ba S 48 Nd.isBlock t) :
 Calls prog 47 #[.agg #[.int .u8 41,.int .i64 n,str s,.slice a l.length c]] w fun e w'=>e = .returned (.bool (Nd.mk 41 n s l).isStmt)∧Ext w w':=by
 have HEX:Hid (∀t∈l,Ba S 88 Nd.isExpr t):=Lib.hid fun t ht=>B8 S t (AG hrw t ht)
 have HPL:Hid (∀t∈l,Ba S 87 Nd.isPlace t):=Lib.hid fun t ht=>BX S t (AG hrw t ht)
 have HVA:Hid (∀t∈l,Ba S 91 Nd.isVar t):=Lib.hid fun t ht=>CQ S t (AG hrw t ht)
 have HBL:=Lib.hid hb;clear hb
 have HSL:=Lib.hid hsl;clear hsl hrw
 have hr:=QD n s l
 have HR:=Lib.hid hr;clear hr
 cases hnm:plain n s
 all_goals have HNM:=Lib.hid hnm;clear hnm
 all_goals go_enter func47,ntmps47
 all_goals go_wp2_with (first|(go_at_call 85;refine (DA _ _ _ _ _ _ _).mono ?_;rintro e w1 ⟨rfl,hx1⟩;have hc1:=hx1.cells;rw [HNM.out])|(go_at_call 86;refine (Dw _ _ _ l a c [(87,Nd.isPlace),(88,Nd.isExpr)] _ _ S _ hll (by decide) (hs.ext (by refine Ext.alloc ?_ _;refine Ext.trans ?_ ‹_›;refine Ext.alloc ?_ _;exact Ext.refl _)) (Qx (by go_simp) (by go_simp)) (JC Cw Cu) (JC HPL.out HEX.out)).mono ?_;rintro e w2 ⟨rfl,hx2⟩))
 all_goals go_ret
 all_goals rw [HR.out,HNM.out]
 all_goals exact ⟨AO (by simp),(by repeat (first|exact Ext.refl _|assumption|refine Ext.alloc ?_ _|refine Ext.drew ?_|refine Ext.trans ?_ ‹_›))⟩
theorem QF (n:Int) (s:List UInt8) (l:List Nd):(Nd.mk 42 n s l).isStmt=(plain n s&&By l [(87,Nd.isPlace),(88,Nd.isExpr)]):=by
 rcases l with _|⟨x,_|⟨y,_|⟨z,_|⟨u,_|⟨v,l⟩⟩⟩⟩⟩<;>rw [Nd.isStmt.eq_def]<;>simp [By,Bool.and_assoc]
theorem QG (n:Int) (s:List UInt8) (l:List Nd) (a:Option Addr) (c:Nat) (S:Nat→Prop) (w:World)
 (hs:rowSits S w l a) (hsl:s.length≤9223372036854775807) (hll:l.length≤9223372036854775807) (hrw:Co l) (hb : ∀t∈l,Ba S 48 Nd.isBlock t) :
 Calls prog 47 #[.agg #[.int .u8 42,.int .i64 n,str s,.slice a l.length c]] w fun e w'=>e = .returned (.bool (Nd.mk 42 n s l).isStmt)∧Ext w w':=by
 have HEX:Hid (∀t∈l,Ba S 88 Nd.isExpr t):=Lib.hid fun t ht=>B8 S t (AG hrw t ht)
 have HPL:Hid (∀t∈l,Ba S 87 Nd.isPlace t):=Lib.hid fun t ht=>BX S t (AG hrw t ht)
 have HVA:Hid (∀t∈l,Ba S 91 Nd.isVar t):=Lib.hid fun t ht=>CQ S t (AG hrw t ht)
 have HBL:=Lib.hid hb;clear hb
 have HSL:=Lib.hid hsl;clear hsl hrw
 have hr:=QF n s l
 have HR:=Lib.hid hr;clear hr
 cases hnm:plain n s
 all_goals have HNM:=Lib.hid hnm;clear hnm
 all_goals go_enter func47,ntmps47
 all_goals go_wp2_with (first|(go_at_call 85;refine (DA _ _ _ _ _ _ _).mono ?_;rintro e w1 ⟨rfl,hx1⟩;have hc1:=hx1.cells;rw [HNM.out])|(go_at_call 86;refine (Dw _ _ _ l a c [(87,Nd.isPlace),(88,Nd.isExpr)] _ _ S _ hll (by decide) (hs.ext (by refine Ext.alloc ?_ _;refine Ext.trans ?_ ‹_›;refine Ext.alloc ?_ _;exact Ext.refl _)) (Qx (by go_simp) (by go_simp)) (JC Cw Cu) (JC HPL.out HEX.out)).mono ?_;rintro e w2 ⟨rfl,hx2⟩))
 all_goals go_ret
 all_goals rw [HR.out,HNM.out]
 all_goals exact ⟨AO (by simp),(by repeat (first|exact Ext.refl _|assumption|refine Ext.alloc ?_ _|refine Ext.drew ?_|refine Ext.trans ?_ ‹_›))⟩
theorem QH (n:Int) (s:List UInt8) (l:List Nd):(Nd.mk 56 n s l).isStmt=(plain n s&&By l [(87,Nd.isPlace),(88,Nd.isExpr)]):=by
 rcases l with _|⟨x,_|⟨y,_|⟨z,_|⟨u,_|⟨v,l⟩⟩⟩⟩⟩<;>rw [Nd.isStmt.eq_def]<;>simp [By,Bool.and_assoc]
theorem QI (n:Int) (s:List UInt8) (l:List Nd) (a:Option Addr) (c:Nat) (S:Nat→Prop) (w:World)
 (hs:rowSits S w l a) (hsl:s.length≤9223372036854775807) (hll:l.length≤9223372036854775807) (hrw:Co l) (hb : ∀t∈l,Ba S 48 Nd.isBlock t) :
 Calls prog 47 #[.agg #[.int .u8 56,.int .i64 n,str s,.slice a l.length c]] w fun e w'=>e = .returned (.bool (Nd.mk 56 n s l).isStmt)∧Ext w w':=by
 have HEX:Hid (∀t∈l,Ba S 88 Nd.isExpr t):=Lib.hid fun t ht=>B8 S t (AG hrw t ht)
 have HPL:Hid (∀t∈l,Ba S 87 Nd.isPlace t):=Lib.hid fun t ht=>BX S t (AG hrw t ht)
 have HVA:Hid (∀t∈l,Ba S 91 Nd.isVar t):=Lib.hid fun t ht=>CQ S t (AG hrw t ht)
 have HBL:=Lib.hid hb;clear hb
 have HSL:=Lib.hid hsl;clear hsl hrw
 have hr:=QH n s l
 have HR:=Lib.hid hr;clear hr
 cases hnm:plain n s
 all_goals have HNM:=Lib.hid hnm;clear hnm
 all_goals go_enter func47,ntmps47
 all_goals go_wp2_with (first|(go_at_call 85;refine (DA _ _ _ _ _ _ _).mono ?_;rintro e w1 ⟨rfl,hx1⟩;have hc1:=hx1.cells;rw [HNM.out])|(go_at_call 86;refine (Dw _ _ _ l a c [(87,Nd.isPlace),(88,Nd.isExpr)] _ _ S _ hll (by decide) (hs.ext (by refine Ext.alloc ?_ _;refine Ext.trans ?_ ‹_›;refine Ext.alloc ?_ _;exact Ext.refl _)) (Qx (by go_simp) (by go_simp)) (JC Cw Cu) (JC HPL.out HEX.out)).mono ?_;rintro e w2 ⟨rfl,hx2⟩))
 all_goals go_ret
 all_goals rw [HR.out,HNM.out]
 all_goals exact ⟨AO (by simp),(by repeat (first|exact Ext.refl _|assumption|refine Ext.alloc ?_ _|refine Ext.drew ?_|refine Ext.trans ?_ ‹_›))⟩
theorem QJ (n:Int) (s:List UInt8) (l:List Nd):(Nd.mk 43 n s l).isStmt=(plain n s&&By l [(87,Nd.isPlace),(87,Nd.isPlace)]):=by
 rcases l with _|⟨x,_|⟨y,_|⟨z,_|⟨u,_|⟨v,l⟩⟩⟩⟩⟩<;>rw [Nd.isStmt.eq_def]<;>simp [By,Bool.and_assoc]
theorem QK (n:Int) (s:List UInt8) (l:List Nd) (a:Option Addr) (c:Nat) (S:Nat→Prop) (w:World)
 (hs:rowSits S w l a) (hsl:s.length≤9223372036854775807) (hll:l.length≤9223372036854775807) (hrw:Co l) (hb : ∀t∈l,Ba S 48 Nd.isBlock t) :
 Calls prog 47 #[.agg #[.int .u8 43,.int .i64 n,str s,.slice a l.length c]] w fun e w'=>e = .returned (.bool (Nd.mk 43 n s l).isStmt)∧Ext w w':=by
 have HEX:Hid (∀t∈l,Ba S 88 Nd.isExpr t):=Lib.hid fun t ht=>B8 S t (AG hrw t ht)
 have HPL:Hid (∀t∈l,Ba S 87 Nd.isPlace t):=Lib.hid fun t ht=>BX S t (AG hrw t ht)
 have HVA:Hid (∀t∈l,Ba S 91 Nd.isVar t):=Lib.hid fun t ht=>CQ S t (AG hrw t ht)
 have HBL:=Lib.hid hb;clear hb
 have HSL:=Lib.hid hsl;clear hsl hrw
 have hr:=QJ n s l
 have HR:=Lib.hid hr;clear hr
 cases hnm:plain n s
 all_goals have HNM:=Lib.hid hnm;clear hnm
 all_goals go_enter func47,ntmps47
 all_goals go_wp2_with (first|(go_at_call 85;refine (DA _ _ _ _ _ _ _).mono ?_;rintro e w1 ⟨rfl,hx1⟩;have hc1:=hx1.cells;rw [HNM.out])|(go_at_call 86;refine (Dw _ _ _ l a c [(87,Nd.isPlace),(87,Nd.isPlace)] _ _ S _ hll (by decide) (hs.ext (by refine Ext.alloc ?_ _;refine Ext.trans ?_ ‹_›;refine Ext.alloc ?_ _;exact Ext.refl _)) (Qx (by go_simp) (by go_simp)) (JC Cw Cw) (JC HPL.out HPL.out)).mono ?_;rintro e w2 ⟨rfl,hx2⟩))
 all_goals go_ret
 all_goals rw [HR.out,HNM.out]
 all_goals exact ⟨AO (by simp),(by repeat (first|exact Ext.refl _|assumption|refine Ext.alloc ?_ _|refine Ext.drew ?_|refine Ext.trans ?_ ‹_›))⟩
theorem QL (n:Int) (s:List UInt8) (l:List Nd):(Nd.mk 44 n s l).isStmt=(Cr n s&&By l [(87,Nd.isPlace)]):=by
 rcases l with _|⟨x,_|⟨y,_|⟨z,_|⟨u,_|⟨v,l⟩⟩⟩⟩⟩<;>rw [Nd.isStmt.eq_def]<;>simp [By,Bool.and_assoc]
theorem QM (n:Int) (s:List UInt8) (l:List Nd) (a:Option Addr) (c:Nat) (S:Nat→Prop) (w:World)
 (hs:rowSits S w l a) (hsl:s.length≤9223372036854775807) (hll:l.length≤9223372036854775807) (hrw:Co l) (hb : ∀t∈l,Ba S 48 Nd.isBlock t) :
 Calls prog 47 #[.agg #[.int .u8 44,.int .i64 n,str s,.slice a l.length c]] w fun e w'=>e = .returned (.bool (Nd.mk 44 n s l).isStmt)∧Ext w w':=by
 have HEX:Hid (∀t∈l,Ba S 88 Nd.isExpr t):=Lib.hid fun t ht=>B8 S t (AG hrw t ht)
 have HPL:Hid (∀t∈l,Ba S 87 Nd.isPlace t):=Lib.hid fun t ht=>BX S t (AG hrw t ht)
 have HVA:Hid (∀t∈l,Ba S 91 Nd.isVar t):=Lib.hid fun t ht=>CQ S t (AG hrw t ht)
 have HBL:=Lib.hid hb;clear hb
 have HSL:=Lib.hid hsl;clear hsl hrw
 have hr:=QL n s l
 have HR:=Lib.hid hr;clear hr
 cases hnm:Cr n s
 all_goals have HNM:=Lib.hid hnm;clear hnm
 all_goals go_enter func47,ntmps47
 all_goals go_wp2_with (first|(go_at_call 89;refine (D3 _ _ _ _ _ _ _ HSL.out).mono ?_;rintro e w1 ⟨rfl,hx1⟩;have hc1:=hx1.cells;rw [HNM.out])|(go_at_call 86;refine (Dw _ _ _ l a c [(87,Nd.isPlace)] _ _ S _ hll (by decide) (hs.ext (by refine Ext.alloc ?_ _;refine Ext.trans ?_ ‹_›;refine Ext.alloc ?_ _;exact Ext.refl _)) (Mh (by go_simp)) (Gz Cw) (Gz HPL.out)).mono ?_;rintro e w2 ⟨rfl,hx2⟩))
 all_goals go_ret
 all_goals rw [HR.out,HNM.out]
 all_goals exact ⟨AO (by simp),(by repeat (first|exact Ext.refl _|assumption|refine Ext.alloc ?_ _|refine Ext.drew ?_|refine Ext.trans ?_ ‹_›))⟩
theorem QN (n:Int) (s:List UInt8) (l:List Nd):(Nd.mk 45 n s l).isStmt=(Cr n s&&By l [(87,Nd.isPlace)]):=by
 rcases l with _|⟨x,_|⟨y,_|⟨z,_|⟨u,_|⟨v,l⟩⟩⟩⟩⟩<;>rw [Nd.isStmt.eq_def]<;>simp [By,Bool.and_assoc]
theorem QO (n:Int) (s:List UInt8) (l:List Nd) (a:Option Addr) (c:Nat) (S:Nat→Prop) (w:World)
 (hs:rowSits S w l a) (hsl:s.length≤9223372036854775807) (hll:l.length≤9223372036854775807) (hrw:Co l) (hb : ∀t∈l,Ba S 48 Nd.isBlock t) :
 Calls prog 47 #[.agg #[.int .u8 45,.int .i64 n,str s,.slice a l.length c]] w fun e w'=>e = .returned (.bool (Nd.mk 45 n s l).isStmt)∧Ext w w':=by
 have HEX:Hid (∀t∈l,Ba S 88 Nd.isExpr t):=Lib.hid fun t ht=>B8 S t (AG hrw t ht)
 have HPL:Hid (∀t∈l,Ba S 87 Nd.isPlace t):=Lib.hid fun t ht=>BX S t (AG hrw t ht)
 have HVA:Hid (∀t∈l,Ba S 91 Nd.isVar t):=Lib.hid fun t ht=>CQ S t (AG hrw t ht)
 have HBL:=Lib.hid hb;clear hb
 have HSL:=Lib.hid hsl;clear hsl hrw
 have hr:=QN n s l
 have HR:=Lib.hid hr;clear hr
 cases hnm:Cr n s
 all_goals have HNM:=Lib.hid hnm;clear hnm
 all_goals go_enter func47,ntmps47
 all_goals go_wp2_with (first|(go_at_call 89;refine (D3 _ _ _ _ _ _ _ HSL.out).mono ?_;rintro e w1 ⟨rfl,hx1⟩;have hc1:=hx1.cells;rw [HNM.out])|(go_at_call 86;refine (Dw _ _ _ l a c [(87,Nd.isPlace)] _ _ S _ hll (by decide) (hs.ext (by refine Ext.alloc ?_ _;refine Ext.trans ?_ ‹_›;refine Ext.alloc ?_ _;exact Ext.refl _)) (Mh (by go_simp)) (Gz Cw) (Gz HPL.out)).mono ?_;rintro e w2 ⟨rfl,hx2⟩))
 all_goals go_ret
 all_goals rw [HR.out,HNM.out]
 all_goals exact ⟨AO (by simp),(by repeat (first|exact Ext.refl _|assumption|refine Ext.alloc ?_ _|refine Ext.drew ?_|refine Ext.trans ?_ ‹_›))⟩
theorem QP (n:Int) (s:List UInt8) (l:List Nd):(Nd.mk 46 n s l).isStmt=(plain n s&&By l [(87,Nd.isPlace)]):=by
 rcases l with _|⟨x,_|⟨y,_|⟨z,_|⟨u,_|⟨v,l⟩⟩⟩⟩⟩<;>rw [Nd.isStmt.eq_def]<;>simp [By,Bool.and_assoc]
theorem QQ (n:Int) (s:List UInt8) (l:List Nd) (a:Option Addr) (c:Nat) (S:Nat→Prop) (w:World)
 (hs:rowSits S w l a) (hsl:s.length≤9223372036854775807) (hll:l.length≤9223372036854775807) (hrw:Co l) (hb : ∀t∈l,Ba S 48 Nd.isBlock t) :
 Calls prog 47 #[.agg #[.int .u8 46,.int .i64 n,str s,.slice a l.length c]] w fun e w'=>e = .returned (.bool (Nd.mk 46 n s l).isStmt)∧Ext w w':=by
 have HEX:Hid (∀t∈l,Ba S 88 Nd.isExpr t):=Lib.hid fun t ht=>B8 S t (AG hrw t ht)
 have HPL:Hid (∀t∈l,Ba S 87 Nd.isPlace t):=Lib.hid fun t ht=>BX S t (AG hrw t ht)
 have HVA:Hid (∀t∈l,Ba S 91 Nd.isVar t):=Lib.hid fun t ht=>CQ S t (AG hrw t ht)
 have HBL:=Lib.hid hb;clear hb
 have HSL:=Lib.hid hsl;clear hsl hrw
 have hr:=QP n s l
 have HR:=Lib.hid hr;clear hr
 cases hnm:plain n s
 all_goals have HNM:=Lib.hid hnm;clear hnm
 all_goals go_enter func47,ntmps47
 all_goals go_wp2_with (first|(go_at_call 85;refine (DA _ _ _ _ _ _ _).mono ?_;rintro e w1 ⟨rfl,hx1⟩;have hc1:=hx1.cells;rw [HNM.out])|(go_at_call 86;refine (Dw _ _ _ l a c [(87,Nd.isPlace)] _ _ S _ hll (by decide) (hs.ext (by refine Ext.alloc ?_ _;refine Ext.trans ?_ ‹_›;refine Ext.alloc ?_ _;exact Ext.refl _)) (Mh (by go_simp)) (Gz Cw) (Gz HPL.out)).mono ?_;rintro e w2 ⟨rfl,hx2⟩))
 all_goals go_ret
 all_goals rw [HR.out,HNM.out]
 all_goals exact ⟨AO (by simp),(by repeat (first|exact Ext.refl _|assumption|refine Ext.alloc ?_ _|refine Ext.drew ?_|refine Ext.trans ?_ ‹_›))⟩
theorem QR (n:Int) (s:List UInt8) (l:List Nd):(Nd.mk 47 n s l).isStmt=(plain n s&&By l [(87,Nd.isPlace)]):=by
 rcases l with _|⟨x,_|⟨y,_|⟨z,_|⟨u,_|⟨v,l⟩⟩⟩⟩⟩<;>rw [Nd.isStmt.eq_def]<;>simp [By,Bool.and_assoc]
theorem QS (n:Int) (s:List UInt8) (l:List Nd) (a:Option Addr) (c:Nat) (S:Nat→Prop) (w:World)
 (hs:rowSits S w l a) (hsl:s.length≤9223372036854775807) (hll:l.length≤9223372036854775807) (hrw:Co l) (hb : ∀t∈l,Ba S 48 Nd.isBlock t) :
 Calls prog 47 #[.agg #[.int .u8 47,.int .i64 n,str s,.slice a l.length c]] w fun e w'=>e = .returned (.bool (Nd.mk 47 n s l).isStmt)∧Ext w w':=by
 have HEX:Hid (∀t∈l,Ba S 88 Nd.isExpr t):=Lib.hid fun t ht=>B8 S t (AG hrw t ht)
 have HPL:Hid (∀t∈l,Ba S 87 Nd.isPlace t):=Lib.hid fun t ht=>BX S t (AG hrw t ht)
 have HVA:Hid (∀t∈l,Ba S 91 Nd.isVar t):=Lib.hid fun t ht=>CQ S t (AG hrw t ht)
 have HBL:=Lib.hid hb;clear hb
 have HSL:=Lib.hid hsl;clear hsl hrw
 have hr:=QR n s l
 have HR:=Lib.hid hr;clear hr
 cases hnm:plain n s
 all_goals have HNM:=Lib.hid hnm;clear hnm
 all_goals go_enter func47,ntmps47
 all_goals go_wp2_with (first|(go_at_call 85;refine (DA _ _ _ _ _ _ _).mono ?_;rintro e w1 ⟨rfl,hx1⟩;have hc1:=hx1.cells;rw [HNM.out])|(go_at_call 86;refine (Dw _ _ _ l a c [(87,Nd.isPlace)] _ _ S _ hll (by decide) (hs.ext (by refine Ext.alloc ?_ _;refine Ext.trans ?_ ‹_›;refine Ext.alloc ?_ _;exact Ext.refl _)) (Mh (by go_simp)) (Gz Cw) (Gz HPL.out)).mono ?_;rintro e w2 ⟨rfl,hx2⟩))
 all_goals go_ret
 all_goals rw [HR.out,HNM.out]
 all_goals exact ⟨AO (by simp),(by repeat (first|exact Ext.refl _|assumption|refine Ext.alloc ?_ _|refine Ext.drew ?_|refine Ext.trans ?_ ‹_›))⟩
theorem QT (n:Int) (s:List UInt8) (l:List Nd):(Nd.mk 48 n s l).isStmt=(plain n s&&By l [(87,Nd.isPlace)]):=by
 rcases l with _|⟨x,_|⟨y,_|⟨z,_|⟨u,_|⟨v,l⟩⟩⟩⟩⟩<;>rw [Nd.isStmt.eq_def]<;>simp [By,Bool.and_assoc]
theorem QU (n:Int) (s:List UInt8) (l:List Nd) (a:Option Addr) (c:Nat) (S:Nat→Prop) (w:World)
 (hs:rowSits S w l a) (hsl:s.length≤9223372036854775807) (hll:l.length≤9223372036854775807) (hrw:Co l) (hb : ∀t∈l,Ba S 48 Nd.isBlock t) :
 Calls prog 47 #[.agg #[.int .u8 48,.int .i64 n,str s,.slice a l.length c]] w fun e w'=>e = .returned (.bool (Nd.mk 48 n s l).isStmt)∧Ext w w':=by
 have HEX:Hid (∀t∈l,Ba S 88 Nd.isExpr t):=Lib.hid fun t ht=>B8 S t (AG hrw t ht)
 have HPL:Hid (∀t∈l,Ba S 87 Nd.isPlace t):=Lib.hid fun t ht=>BX S t (AG hrw t ht)
 have HVA:Hid (∀t∈l,Ba S 91 Nd.isVar t):=Lib.hid fun t ht=>CQ S t (AG hrw t ht)
 have HBL:=Lib.hid hb;clear hb
 have HSL:=Lib.hid hsl;clear hsl hrw
 have hr:=QT n s l
 have HR:=Lib.hid hr;clear hr
 cases hnm:plain n s
 all_goals have HNM:=Lib.hid hnm;clear hnm
 all_goals go_enter func47,ntmps47
 all_goals go_wp2_with (first|(go_at_call 85;refine (DA _ _ _ _ _ _ _).mono ?_;rintro e w1 ⟨rfl,hx1⟩;have hc1:=hx1.cells;rw [HNM.out])|(go_at_call 86;refine (Dw _ _ _ l a c [(87,Nd.isPlace)] _ _ S _ hll (by decide) (hs.ext (by refine Ext.alloc ?_ _;refine Ext.trans ?_ ‹_›;refine Ext.alloc ?_ _;exact Ext.refl _)) (Mh (by go_simp)) (Gz Cw) (Gz HPL.out)).mono ?_;rintro e w2 ⟨rfl,hx2⟩))
 all_goals go_ret
 all_goals rw [HR.out,HNM.out]
 all_goals exact ⟨AO (by simp),(by repeat (first|exact Ext.refl _|assumption|refine Ext.alloc ?_ _|refine Ext.drew ?_|refine Ext.trans ?_ ‹_›))⟩
theorem QV (n:Int) (s:List UInt8) (l:List Nd):(Nd.mk 49 n s l).isStmt=(plain n s&&By l [(87,Nd.isPlace)]):=by
 rcases l with _|⟨x,_|⟨y,_|⟨z,_|⟨u,_|⟨v,l⟩⟩⟩⟩⟩<;>rw [Nd.isStmt.eq_def]<;>simp [By,Bool.and_assoc]
theorem QX (n:Int) (s:List UInt8) (l:List Nd) (a:Option Addr) (c:Nat) (S:Nat→Prop) (w:World)
 (hs:rowSits S w l a) (hsl:s.length≤9223372036854775807) (hll:l.length≤9223372036854775807) (hrw:Co l) (hb : ∀t∈l,Ba S 48 Nd.isBlock t) :
 Calls prog 47 #[.agg #[.int .u8 49,.int .i64 n,str s,.slice a l.length c]] w fun e w'=>e = .returned (.bool (Nd.mk 49 n s l).isStmt)∧Ext w w':=by
 have HEX:Hid (∀t∈l,Ba S 88 Nd.isExpr t):=Lib.hid fun t ht=>B8 S t (AG hrw t ht)
 have HPL:Hid (∀t∈l,Ba S 87 Nd.isPlace t):=Lib.hid fun t ht=>BX S t (AG hrw t ht)
 have HVA:Hid (∀t∈l,Ba S 91 Nd.isVar t):=Lib.hid fun t ht=>CQ S t (AG hrw t ht)
 have HBL:=Lib.hid hb;clear hb
 have HSL:=Lib.hid hsl;clear hsl hrw
 have hr:=QV n s l
 have HR:=Lib.hid hr;clear hr
 cases hnm:plain n s
 all_goals have HNM:=Lib.hid hnm;clear hnm
 all_goals go_enter func47,ntmps47
 all_goals go_wp2_with (first|(go_at_call 85;refine (DA _ _ _ _ _ _ _).mono ?_;rintro e w1 ⟨rfl,hx1⟩;have hc1:=hx1.cells;rw [HNM.out])|(go_at_call 86;refine (Dw _ _ _ l a c [(87,Nd.isPlace)] _ _ S _ hll (by decide) (hs.ext (by refine Ext.alloc ?_ _;refine Ext.trans ?_ ‹_›;refine Ext.alloc ?_ _;exact Ext.refl _)) (Mh (by go_simp)) (Gz Cw) (Gz HPL.out)).mono ?_;rintro e w2 ⟨rfl,hx2⟩))
 all_goals go_ret
 all_goals rw [HR.out,HNM.out]
 all_goals exact ⟨AO (by simp),(by repeat (first|exact Ext.refl _|assumption|refine Ext.alloc ?_ _|refine Ext.drew ?_|refine Ext.trans ?_ ‹_›))⟩
theorem QY (n:Int) (s:List UInt8) (l:List Nd):(Nd.mk 52 n s l).isStmt=(plain n s&&By l [(88,Nd.isExpr),(48,Nd.isBlock),(48,Nd.isBlock),(88,Nd.isExpr)]):=by
 rcases l with _|⟨x,_|⟨y,_|⟨z,_|⟨u,_|⟨v,l⟩⟩⟩⟩⟩<;>rw [Nd.isStmt.eq_def]<;>simp [By,Bool.and_assoc]
theorem QZ (n:Int) (s:List UInt8) (l:List Nd) (a:Option Addr) (c:Nat) (S:Nat→Prop) (w:World)
 (hs:rowSits S w l a) (hsl:s.length≤9223372036854775807) (hll:l.length≤9223372036854775807) (hrw:Co l) (hb : ∀t∈l,Ba S 48 Nd.isBlock t) :
 Calls prog 47 #[.agg #[.int .u8 52,.int .i64 n,str s,.slice a l.length c]] w fun e w'=>e = .returned (.bool (Nd.mk 52 n s l).isStmt)∧Ext w w':=by
 have HEX:Hid (∀t∈l,Ba S 88 Nd.isExpr t):=Lib.hid fun t ht=>B8 S t (AG hrw t ht)
 have HPL:Hid (∀t∈l,Ba S 87 Nd.isPlace t):=Lib.hid fun t ht=>BX S t (AG hrw t ht)
 have HVA:Hid (∀t∈l,Ba S 91 Nd.isVar t):=Lib.hid fun t ht=>CQ S t (AG hrw t ht)
 have HBL:=Lib.hid hb;clear hb
 have HSL:=Lib.hid hsl;clear hsl hrw
 have hr:=QY n s l
 have HR:=Lib.hid hr;clear hr
 cases hnm:plain n s
 all_goals have HNM:=Lib.hid hnm;clear hnm
 all_goals go_enter func47,ntmps47
 all_goals go_wp2_with (first|(go_at_call 85;refine (DA _ _ _ _ _ _ _).mono ?_;rintro e w1 ⟨rfl,hx1⟩;have hc1:=hx1.cells;rw [HNM.out])|(go_at_call 86;refine (Dw _ _ _ l a c [(88,Nd.isExpr),(48,Nd.isBlock),(48,Nd.isBlock),(88,Nd.isExpr)] _ _ S _ hll (by decide) (hs.ext (by refine Ext.alloc ?_ _;refine Ext.trans ?_ ‹_›;refine Ext.alloc ?_ _;exact Ext.refl _)) (Wd (by go_simp) (by go_simp) (by go_simp) (by go_simp)) (T1 Cu EF EF Cu) (T1 HEX.out HBL.out HBL.out HEX.out)).mono ?_;rintro e w2 ⟨rfl,hx2⟩))
 all_goals go_ret
 all_goals rw [HR.out,HNM.out]
 all_goals exact ⟨AO (by simp),(by repeat (first|exact Ext.refl _|assumption|refine Ext.alloc ?_ _|refine Ext.drew ?_|refine Ext.trans ?_ ‹_›))⟩
theorem Q0 (n:Int) (s:List UInt8) (l:List Nd):(Nd.mk 53 n s l).isStmt=(plain n s&&By l [(88,Nd.isExpr),(48,Nd.isBlock),(48,Nd.isBlock),(88,Nd.isExpr)]):=by
 rcases l with _|⟨x,_|⟨y,_|⟨z,_|⟨u,_|⟨v,l⟩⟩⟩⟩⟩<;>rw [Nd.isStmt.eq_def]<;>simp [By,Bool.and_assoc]
theorem Q1 (n:Int) (s:List UInt8) (l:List Nd) (a:Option Addr) (c:Nat) (S:Nat→Prop) (w:World)
 (hs:rowSits S w l a) (hsl:s.length≤9223372036854775807) (hll:l.length≤9223372036854775807) (hrw:Co l) (hb : ∀t∈l,Ba S 48 Nd.isBlock t) :
 Calls prog 47 #[.agg #[.int .u8 53,.int .i64 n,str s,.slice a l.length c]] w fun e w'=>e = .returned (.bool (Nd.mk 53 n s l).isStmt)∧Ext w w':=by
 have HEX:Hid (∀t∈l,Ba S 88 Nd.isExpr t):=Lib.hid fun t ht=>B8 S t (AG hrw t ht)
 have HPL:Hid (∀t∈l,Ba S 87 Nd.isPlace t):=Lib.hid fun t ht=>BX S t (AG hrw t ht)
 have HVA:Hid (∀t∈l,Ba S 91 Nd.isVar t):=Lib.hid fun t ht=>CQ S t (AG hrw t ht)
 have HBL:=Lib.hid hb;clear hb
 have HSL:=Lib.hid hsl;clear hsl hrw
 have hr:=Q0 n s l
 have HR:=Lib.hid hr;clear hr
 cases hnm:plain n s
 all_goals have HNM:=Lib.hid hnm;clear hnm
 all_goals go_enter func47,ntmps47
 all_goals go_wp2_with (first|(go_at_call 85;refine (DA _ _ _ _ _ _ _).mono ?_;rintro e w1 ⟨rfl,hx1⟩;have hc1:=hx1.cells;rw [HNM.out])|(go_at_call 86;refine (Dw _ _ _ l a c [(88,Nd.isExpr),(48,Nd.isBlock),(48,Nd.isBlock),(88,Nd.isExpr)] _ _ S _ hll (by decide) (hs.ext (by refine Ext.alloc ?_ _;refine Ext.trans ?_ ‹_›;refine Ext.alloc ?_ _;exact Ext.refl _)) (Wd (by go_simp) (by go_simp) (by go_simp) (by go_simp)) (T1 Cu EF EF Cu) (T1 HEX.out HBL.out HBL.out HEX.out)).mono ?_;rintro e w2 ⟨rfl,hx2⟩))
 all_goals go_ret
 all_goals rw [HR.out,HNM.out]
 all_goals exact ⟨AO (by simp),(by repeat (first|exact Ext.refl _|assumption|refine Ext.alloc ?_ _|refine Ext.drew ?_|refine Ext.trans ?_ ‹_›))⟩
theorem Q2 (n:Int) (s:List UInt8) (l:List Nd):(Nd.mk 54 n s l).isStmt=(Cr n s&&By l [(88,Nd.isExpr),(48,Nd.isBlock),(88,Nd.isExpr)]):=by
 rcases l with _|⟨x,_|⟨y,_|⟨z,_|⟨u,_|⟨v,l⟩⟩⟩⟩⟩<;>rw [Nd.isStmt.eq_def]<;>simp [By,Bool.and_assoc]
theorem Q3 (n:Int) (s:List UInt8) (l:List Nd) (a:Option Addr) (c:Nat) (S:Nat→Prop) (w:World)
 (hs:rowSits S w l a) (hsl:s.length≤9223372036854775807) (hll:l.length≤9223372036854775807) (hrw:Co l) (hb : ∀t∈l,Ba S 48 Nd.isBlock t) :
 Calls prog 47 #[.agg #[.int .u8 54,.int .i64 n,str s,.slice a l.length c]] w fun e w'=>e = .returned (.bool (Nd.mk 54 n s l).isStmt)∧Ext w w':=by
 have HEX:Hid (∀t∈l,Ba S 88 Nd.isExpr t):=Lib.hid fun t ht=>B8 S t (AG hrw t ht)
 have HPL:Hid (∀t∈l,Ba S 87 Nd.isPlace t):=Lib.hid fun t ht=>BX S t (AG hrw t ht)
 have HVA:Hid (∀t∈l,Ba S 91 Nd.isVar t):=Lib.hid fun t ht=>CQ S t (AG hrw t ht)
 have HBL:=Lib.hid hb;clear hb
 have HSL:=Lib.hid hsl;clear hsl hrw
 have hr:=Q2 n s l
 have HR:=Lib.hid hr;clear hr
 cases hnm:Cr n s
 all_goals have HNM:=Lib.hid hnm;clear hnm
 all_goals go_enter func47,ntmps47
 all_goals go_wp2_with (first|(go_at_call 89;refine (D3 _ _ _ _ _ _ _ HSL.out).mono ?_;rintro e w1 ⟨rfl,hx1⟩;have hc1:=hx1.cells;rw [HNM.out])|(go_at_call 86;refine (Dw _ _ _ l a c [(88,Nd.isExpr),(48,Nd.isBlock),(88,Nd.isExpr)] _ _ S _ hll (by decide) (hs.ext (by refine Ext.alloc ?_ _;refine Ext.trans ?_ ‹_›;refine Ext.alloc ?_ _;exact Ext.refl _)) (WQ (by go_simp) (by go_simp) (by go_simp)) (We Cu EF Cu) (We HEX.out HBL.out HEX.out)).mono ?_;rintro e w2 ⟨rfl,hx2⟩))
 all_goals go_ret
 all_goals rw [HR.out,HNM.out]
 all_goals exact ⟨AO (by simp),(by repeat (first|exact Ext.refl _|assumption|refine Ext.alloc ?_ _|refine Ext.drew ?_|refine Ext.trans ?_ ‹_›))⟩
theorem Q4 (n:Int) (s:List UInt8) (l:List Nd):(Nd.mk 55 n s l).isStmt=(Cr n s&&By l [(48,Nd.isBlock)]):=by
 rcases l with _|⟨x,_|⟨y,_|⟨z,_|⟨u,_|⟨v,l⟩⟩⟩⟩⟩<;>rw [Nd.isStmt.eq_def]<;>simp [By,Bool.and_assoc]
theorem Q5 (n:Int) (s:List UInt8) (l:List Nd) (a:Option Addr) (c:Nat) (S:Nat→Prop) (w:World)
 (hs:rowSits S w l a) (hsl:s.length≤9223372036854775807) (hll:l.length≤9223372036854775807) (hrw:Co l) (hb : ∀t∈l,Ba S 48 Nd.isBlock t) :
 Calls prog 47 #[.agg #[.int .u8 55,.int .i64 n,str s,.slice a l.length c]] w fun e w'=>e = .returned (.bool (Nd.mk 55 n s l).isStmt)∧Ext w w':=by
 have HEX:Hid (∀t∈l,Ba S 88 Nd.isExpr t):=Lib.hid fun t ht=>B8 S t (AG hrw t ht)
 have HPL:Hid (∀t∈l,Ba S 87 Nd.isPlace t):=Lib.hid fun t ht=>BX S t (AG hrw t ht)
 have HVA:Hid (∀t∈l,Ba S 91 Nd.isVar t):=Lib.hid fun t ht=>CQ S t (AG hrw t ht)
 have HBL:=Lib.hid hb;clear hb
 have HSL:=Lib.hid hsl;clear hsl hrw
 have hr:=Q4 n s l
 have HR:=Lib.hid hr;clear hr
 cases hnm:Cr n s
 all_goals have HNM:=Lib.hid hnm;clear hnm
 all_goals go_enter func47,ntmps47
 all_goals go_wp2_with (first|(go_at_call 89;refine (D3 _ _ _ _ _ _ _ HSL.out).mono ?_;rintro e w1 ⟨rfl,hx1⟩;have hc1:=hx1.cells;rw [HNM.out])|(go_at_call 86;refine (Dw _ _ _ l a c [(48,Nd.isBlock)] _ _ S _ hll (by decide) (hs.ext (by refine Ext.alloc ?_ _;refine Ext.trans ?_ ‹_›;refine Ext.alloc ?_ _;exact Ext.refl _)) (Mh (by go_simp)) (Gz EF) (Gz HBL.out)).mono ?_;rintro e w2 ⟨rfl,hx2⟩))
 all_goals go_ret
 all_goals rw [HR.out,HNM.out]
 all_goals exact ⟨AO (by simp),(by repeat (first|exact Ext.refl _|assumption|refine Ext.alloc ?_ _|refine Ext.drew ?_|refine Ext.trans ?_ ‹_›))⟩
theorem Q6 (n:Int) (s:List UInt8) (l:List Nd):(Nd.mk 50 n s l).isStmt=(Cr n s&&decide (l.length≤8)&&l.all Nd.isVar):=by
 rw [Nd.isStmt.eq_def];simp
theorem Q7 (n:Int) (s:List UInt8) (l:List Nd) (a:Option Addr) (c:Nat) (S:Nat→Prop) (w:World)
 (hs:rowSits S w l a) (hsl:s.length≤9223372036854775807) (hll:l.length≤9223372036854775807) (hrw:Co l) (hb : ∀t∈l,Ba S 48 Nd.isBlock t) :
 Calls prog 47 #[.agg #[.int .u8 50,.int .i64 n,str s,.slice a l.length c]] w fun e w'=>e = .returned (.bool (Nd.mk 50 n s l).isStmt)∧Ext w w':=by
 have HEX:Hid (∀t∈l,Ba S 88 Nd.isExpr t):=Lib.hid fun t ht=>B8 S t (AG hrw t ht)
 have HPL:Hid (∀t∈l,Ba S 87 Nd.isPlace t):=Lib.hid fun t ht=>BX S t (AG hrw t ht)
 have HVA:Hid (∀t∈l,Ba S 91 Nd.isVar t):=Lib.hid fun t ht=>CQ S t (AG hrw t ht)
 have HBL:=Lib.hid hb;clear hb
 have HSL:=Lib.hid hsl;clear hsl hrw
 have hr:=Q6 n s l
 have HR:=Lib.hid hr;clear hr
 cases hnm:Cr n s
 · have HNM:=Lib.hid hnm;clear hnm
   go_enter func47,ntmps47
   go_wp2_with (first|(go_at_call 89;refine (D3 _ _ _ _ _ _ _ HSL.out).mono ?_;rintro e w1 ⟨rfl,hx1⟩;have hc1:=hx1.cells;rw [HNM.out]))
   go_ret
   rw [HR.out,HNM.out]
   exact ⟨AO (by simp),(by refine Ext.trans ?_ ‹_›;refine Ext.alloc ?_ _;exact Ext.refl _)⟩
 · have HNM:=Lib.hid hnm;clear hnm
   by_cases h8:l.length≤8
   · have d8:decide ((l.length:Int)≤8)=true:=by simp;omega
     have H8:=Lib.hid h8;clear h8
     go_enter func47,ntmps47
     go_wp2_with (first|(go_at_call 89;refine (D3 _ _ _ _ _ _ _ HSL.out).mono ?_;rintro e w1 ⟨rfl,hx1⟩;have hc1:=hx1.cells;rw [HNM.out])|(go_at_call 90;refine (Mg 91 Nd.isVar M9 l a c S _ hll (hs.ext (by refine Ext.trans ?_ ‹_›;refine Ext.alloc ?_ _;exact Ext.refl _)) HVA.out).mono ?_;rintro e w2 ⟨rfl,hx2⟩))
     go_ret
     rw [HR.out,HNM.out]
     exact ⟨AO (by simp [H8.out]),(by refine Ext.trans ?_ ‹_›;refine Ext.trans ?_ ‹_›;refine Ext.alloc ?_ _;exact Ext.refl _)⟩
   · have d8:decide ((l.length:Int)≤8)=false:=by simp;omega
     have H8:=Lib.hid h8;clear h8
     go_enter func47,ntmps47
     go_wp2_with (first|(go_at_call 89;refine (D3 _ _ _ _ _ _ _ HSL.out).mono ?_;rintro e w1 ⟨rfl,hx1⟩;have hc1:=hx1.cells;rw [HNM.out]))
     go_ret
     rw [HR.out,HNM.out]
     exact ⟨AO (by simp [H8.out]),(by refine Ext.trans ?_ ‹_›;refine Ext.alloc ?_ _;exact Ext.refl _)⟩
theorem Q8 (n:Int) (s:List UInt8) (l:List Nd):(Nd.mk 51 n s l).isStmt=(Cr n s&&decide (l.length≤8)&&l.all Nd.isVar):=by
 rw [Nd.isStmt.eq_def];simp
theorem Q9 (n:Int) (s:List UInt8) (l:List Nd) (a:Option Addr) (c:Nat) (S:Nat→Prop) (w:World)
 (hs:rowSits S w l a) (hsl:s.length≤9223372036854775807) (hll:l.length≤9223372036854775807) (hrw:Co l) (hb : ∀t∈l,Ba S 48 Nd.isBlock t) :
 Calls prog 47 #[.agg #[.int .u8 51,.int .i64 n,str s,.slice a l.length c]] w fun e w'=>e = .returned (.bool (Nd.mk 51 n s l).isStmt)∧Ext w w':=by
 have HEX:Hid (∀t∈l,Ba S 88 Nd.isExpr t):=Lib.hid fun t ht=>B8 S t (AG hrw t ht)
 have HPL:Hid (∀t∈l,Ba S 87 Nd.isPlace t):=Lib.hid fun t ht=>BX S t (AG hrw t ht)
 have HVA:Hid (∀t∈l,Ba S 91 Nd.isVar t):=Lib.hid fun t ht=>CQ S t (AG hrw t ht)
 have HBL:=Lib.hid hb;clear hb
 have HSL:=Lib.hid hsl;clear hsl hrw
 have hr:=Q8 n s l
 have HR:=Lib.hid hr;clear hr
 cases hnm:Cr n s
 · have HNM:=Lib.hid hnm;clear hnm
   go_enter func47,ntmps47
   go_wp2_with (first|(go_at_call 89;refine (D3 _ _ _ _ _ _ _ HSL.out).mono ?_;rintro e w1 ⟨rfl,hx1⟩;have hc1:=hx1.cells;rw [HNM.out]))
   go_ret
   rw [HR.out,HNM.out]
   exact ⟨AO (by simp),(by refine Ext.trans ?_ ‹_›;refine Ext.alloc ?_ _;exact Ext.refl _)⟩
 · have HNM:=Lib.hid hnm;clear hnm
   by_cases h8:l.length≤8
   · have d8:decide ((l.length:Int)≤8)=true:=by simp;omega
     have H8:=Lib.hid h8;clear h8
     go_enter func47,ntmps47
     go_wp2_with (first|(go_at_call 89;refine (D3 _ _ _ _ _ _ _ HSL.out).mono ?_;rintro e w1 ⟨rfl,hx1⟩;have hc1:=hx1.cells;rw [HNM.out])|(go_at_call 90;refine (Mg 91 Nd.isVar M9 l a c S _ hll (hs.ext (by refine Ext.trans ?_ ‹_›;refine Ext.alloc ?_ _;exact Ext.refl _)) HVA.out).mono ?_;rintro e w2 ⟨rfl,hx2⟩))
     go_ret
     rw [HR.out,HNM.out]
     exact ⟨AO (by simp [H8.out]),(by refine Ext.trans ?_ ‹_›;refine Ext.trans ?_ ‹_›;refine Ext.alloc ?_ _;exact Ext.refl _)⟩
   · have d8:decide ((l.length:Int)≤8)=false:=by simp;omega
     have H8:=Lib.hid h8;clear h8
     go_enter func47,ntmps47
     go_wp2_with (first|(go_at_call 89;refine (D3 _ _ _ _ _ _ _ HSL.out).mono ?_;rintro e w1 ⟨rfl,hx1⟩;have hc1:=hx1.cells;rw [HNM.out]))
     go_ret
     rw [HR.out,HNM.out]
     exact ⟨AO (by simp [H8.out]),(by refine Ext.trans ?_ ‹_›;refine Ext.alloc ?_ _;exact Ext.refl _)⟩
theorem Na (k n:Int) (s:List UInt8) (l:List Nd) (h:k<40∨56<k):(Nd.mk k n s l).isStmt=false:=by
 rw [Nd.isStmt.eq_def];simp only [];rw [if_neg (by omega),if_neg (by omega),if_neg (by omega),if_neg (by omega),if_neg (by omega),if_neg (by omega),if_neg (by omega),if_neg (by omega)]
theorem Nb (k n:Int) (s:List UInt8) (l:List Nd) (a:Option Addr) (c:Nat) (w:World) (h:k<40∨56<k) :
 Calls prog 47 #[.agg #[.int .u8 k,.int .i64 n,str s,.slice a l.length c]] w fun e w'=>e = .returned (.bool (Nd.mk k n s l).isStmt)∧Ext w w':=by
 have hr:=Na k n s l h
 have HR:=Lib.hid hr;clear hr
 have d40:(k==40)=false:=by rw [beq_eq_false_iff_ne];omega
 have d41:(k==41)=false:=by rw [beq_eq_false_iff_ne];omega
 have d42:(k==42)=false:=by rw [beq_eq_false_iff_ne];omega
 have d43:(k==43)=false:=by rw [beq_eq_false_iff_ne];omega
 have d44:(k==44)=false:=by rw [beq_eq_false_iff_ne];omega
 have d45:(k==45)=false:=by rw [beq_eq_false_iff_ne];omega
 have d46:(k==46)=false:=by rw [beq_eq_false_iff_ne];omega
 have d47:(k==47)=false:=by rw [beq_eq_false_iff_ne];omega
 have d48:(k==48)=false:=by rw [beq_eq_false_iff_ne];omega
 have d49:(k==49)=false:=by rw [beq_eq_false_iff_ne];omega
 have d50:(k==50)=false:=by rw [beq_eq_false_iff_ne];omega
 have d51:(k==51)=false:=by rw [beq_eq_false_iff_ne];omega
 have d52:(k==52)=false:=by rw [beq_eq_false_iff_ne];omega
 have d53:(k==53)=false:=by rw [beq_eq_false_iff_ne];omega
 have d54:(k==54)=false:=by rw [beq_eq_false_iff_ne];omega
 have d55:(k==55)=false:=by rw [beq_eq_false_iff_ne];omega
 have d56:(k==56)=false:=by rw [beq_eq_false_iff_ne];omega
 clear h
 go_enter func47,ntmps47
 go_wp2_with fail
 go_ret
 rw [HR.out]
 exact ⟨rfl,(by refine Ext.alloc ?_ _;exact Ext.refl _)⟩
theorem OD (k n:Int) (s:List UInt8) (l:List Nd) (a:Option Addr) (c:Nat) (S:Nat→Prop) (w:World)
 (hs:rowSits S w l a) (hsl:s.length≤9223372036854775807) (hll:l.length≤9223372036854775807) (hrw:Co l) (hb : ∀t∈l,Ba S 48 Nd.isBlock t) :
 Calls prog 47 #[.agg #[.int .u8 k,.int .i64 n,str s,.slice a l.length c]] w fun e w'=>e = .returned (.bool (Nd.mk k n s l).isStmt)∧Ext w w':=by
 by_cases h:k<40∨56<k
 · exact Nb k n s l a c w h
 by_cases h40:k=40
 · subst h40;exact QC n s l a c S w hs hsl hll hrw hb
 by_cases h41:k=41
 · subst h41;exact QE n s l a c S w hs hsl hll hrw hb
 by_cases h42:k=42
 · subst h42;exact QG n s l a c S w hs hsl hll hrw hb
 by_cases h43:k=43
 · subst h43;exact QK n s l a c S w hs hsl hll hrw hb
 by_cases h44:k=44
 · subst h44;exact QM n s l a c S w hs hsl hll hrw hb
 by_cases h45:k=45
 · subst h45;exact QO n s l a c S w hs hsl hll hrw hb
 by_cases h46:k=46
 · subst h46;exact QQ n s l a c S w hs hsl hll hrw hb
 by_cases h47:k=47
 · subst h47;exact QS n s l a c S w hs hsl hll hrw hb
 by_cases h48:k=48
 · subst h48;exact QU n s l a c S w hs hsl hll hrw hb
 by_cases h49:k=49
 · subst h49;exact QX n s l a c S w hs hsl hll hrw hb
 by_cases h50:k=50
 · subst h50;exact Q7 n s l a c S w hs hsl hll hrw hb
 by_cases h51:k=51
 · subst h51;exact Q9 n s l a c S w hs hsl hll hrw hb
 by_cases h52:k=52
 · subst h52;exact QZ n s l a c S w hs hsl hll hrw hb
 by_cases h53:k=53
 · subst h53;exact Q1 n s l a c S w hs hsl hll hrw hb
 by_cases h54:k=54
 · subst h54;exact Q3 n s l a c S w hs hsl hll hrw hb
 by_cases h55:k=55
 · subst h55;exact Q5 n s l a c S w hs hsl hll hrw hb
 by_cases h56:k=56
 · subst h56;exact QI n s l a c S w hs hsl hll hrw hb
 omega
theorem Nc (k n:Int) (s:List UInt8) (l:List Nd) (a:Option Addr) (c:Nat) (S:Nat→Prop) (w:World)
 (hs:rowSits S w l a) (hll:l.length≤9223372036854775807) (ht : ∀t∈l,Ba S 47 Nd.isStmt t) :
 Calls prog 48 #[.agg #[.int .u8 k,.int .i64 n,str s,.slice a l.length c]] w fun e w'=>e = .returned (.bool (Nd.mk k n s l).isBlock)∧Ext w w':=by
 have hall : ∀r:List Nd,D2 r=r.all Nd.isStmt:=by
  intro r
  induction r with
  | nil=>rfl
  | cons x r ih=>simp [D2,ih]
 have hr:(Nd.mk k n s l).isBlock=(k==57&&plain n s&&l.all Nd.isStmt):=by rw [Nd.isBlock,hall]
 have HR:=Lib.hid hr;clear hr hall
 have HT:=Lib.hid ht;clear ht
 by_cases h57:k=57
 · subst h57
   cases hnm:plain n s
   all_goals have HNM:=Lib.hid hnm;clear hnm
   all_goals go_enter func48,ntmps48
   all_goals go_wp2_with (first|(go_at_call 85;refine (DA _ _ _ _ _ _ _).mono ?_;rintro e w1 ⟨rfl,hx1⟩;have hc1:=hx1.cells;rw [HNM.out])|(go_at_call 90;refine (Mg 47 Nd.isStmt QA l a c S _ hll (hs.ext (by refine Ext.trans ?_ ‹_›;refine Ext.alloc ?_ _;exact Ext.refl _)) HT.out).mono ?_;rintro e w2 ⟨rfl,hx2⟩))
   all_goals go_ret
   all_goals rw [HR.out,HNM.out]
   all_goals exact ⟨AO (by simp),(by repeat (first|exact Ext.refl _|assumption|refine Ext.alloc ?_ _|refine Ext.drew ?_|refine Ext.trans ?_ ‹_›))⟩
 · have d57:(k==57)=false:=by rw [beq_eq_false_iff_ne];omega
   clear h57
   go_enter func48,ntmps48
   go_wp2_with fail
   go_ret
   rw [HR.out]
   exact ⟨AO (by simp [d57]),(by refine Ext.alloc ?_ _;exact Ext.refl _)⟩
theorem Hj (S:Nat→Prop) (N:Nat):(∀t:Nd,t.size<N→t.wf→Ba S 47 Nd.isStmt t)∧(∀t:Nd,t.size<N→t.wf→Ba S 48 Nd.isBlock t):=by
 induction N with
 | zero=>exact ⟨fun t h=>absurd h (Nat.not_lt_zero _),fun t h=>absurd h (Nat.not_lt_zero _)⟩
 | succ N ih=>
  refine ⟨?_,?_⟩
  · rintro ⟨k,n,s,l⟩ hN hwf a c w hs
    simp only [Nd.wf,Nd.size,Nd.sits] at *
    exact OD k n s l a c S w hs hwf.2.2.2.2.1 hwf.2.2.2.2.2.1 hwf.2.2.2.2.2.2 (fun t ht=>ih.2 t (by have:=DE ht;omega) (AG hwf.2.2.2.2.2.2 t ht))
  · rintro ⟨k,n,s,l⟩ hN hwf a c w hs
    simp only [Nd.wf,Nd.size,Nd.sits] at *
    exact Nc k n s l a c S w hs hwf.2.2.2.2.2.1 (fun t ht=>ih.1 t (by have:=DE ht;omega) (AG hwf.2.2.2.2.2.2 t ht))
theorem Nf (S:Nat→Prop) (t:Nd) (h:t.wf):Ba S 47 Nd.isStmt t:=(Hj S (t.size+1)).1 t (by omega) h
theorem LB (S:Nat→Prop) (t:Nd) (h:t.wf):Ba S 48 Nd.isBlock t:=(Hj S (t.size+1)).2 t (by omega) h
attribute [local irreducible] Go.Calls
mutual
def Nd.eqb:Nd→Nd→Bool
 | .mk k n s l,.mk k' n' s' l'=>decide (k=k')&&(decide (n=n')&&(decide (s=s')&&DL l l'))
def DL:List Nd→List Nd→Bool
 | [],[]=>true
 | x::r,y::q=>x.eqb y&&DL r q
 | [],_::_=>false
 | _::_,[]=>false
end
mutual
theorem PJ : ∀t u:Nd,t.eqb u=true↔t=u
 | .mk k n s l,.mk k' n' s' l'=>by
  unfold Nd.eqb
  simp only [Bool.and_eq_true,decide_eq_true_eq,Kd l l',Nd.mk.injEq]
theorem Kd : ∀l q:List Nd,DL l q=true↔l=q
 | [],[]=>by simp [DL]
 | x::r,y::q=>by
  unfold DL
  simp only [Bool.and_eq_true,PJ x y,Kd r q,List.cons.injEq]
 | [],_::_=>by simp [DL]
 | _::_,[]=>by simp [DL]
end
theorem Ke : ∀ {l q:List Nd},l.length≠q.length→DL l q=false
 | [],[],h=>absurd rfl h
 | x::r,y::q,h=>by
  unfold DL
  rw [Ke (by simpa using h)];simp
 | [],_::_,_=>by simp [DL]
 | _::_,[],_=>by simp [DL]
theorem Ra {l q:List Nd} {j:Nat} (hj:j<l.length) (hq:j<q.length):DL (l.drop j) (q.drop j)=(l[j].eqb q[j]&&DL (l.drop (j+1)) (q.drop (j+1))):=by
 rw [List.drop_eq_getElem_cons hj,List.drop_eq_getElem_cons hq,DL]
mutual
theorem CE {S:Nat→Prop} {w:World} : ∀(l:List Nd) (a:Option Addr),rowSits S w l a→rowSits (· < w.heap.size) w l a
 | [],_,_=>by simp [rowSits]
 | t::r,a,h=>by
  simp only [rowSits] at h ⊢;obtain ⟨b,o,a',c,rfl,hb,h0,h1,h2,h3,hs,hr⟩:=h
  exact ⟨b,o,a',c,rfl,Cd h0,h0,h1,h2,h3,B0 t a' hs,CE r _ hr⟩
theorem B0 {S:Nat→Prop} {w:World} : ∀(t:Nd) (a:Option Addr),t.sits S w a→t.sits (· < w.heap.size) w a
 | .mk _ _ _ l,a,h=>by
  simp only [Nd.sits] at h ⊢
  exact CE l a h
end
def W0 (x y:Nd):Prop:= ∀(S S':Nat→Prop) (a a':Option Addr) (c c':Nat) (w:World),x.sits S w a→y.sits S' w a'→Calls prog 20 #[x.val a c,y.val a' c'] w fun e w'=>e = .returned (.bool (x.eqb y))∧Ext w w'
theorem Ng (l q:List Nd) (h : ∀x∈l,∀y,W0 x y) (S S':Nat→Prop) (a a':Option Addr) (c c':Nat) (w:World) (hl:l.length≤1000000000) (hs:rowSits S w l a) (hs':rowSits S' w q a') :
 Calls prog 49 #[.slice a l.length c,.slice a' q.length c',.func (.func 20) #[] #[]] w fun e w'=>e = .returned (.bool (DL l q))∧Ext w w':=by
 have X:=Ext.refl w;have H:=Lib.hid h;clear h
 by_cases hne:l.length=q.length
 · refine Ad func49 ntmps49 rfl rfl ?_
   focus
    refine cS (C1 Pa (cT (Am (cS (C1 Mv (C1 Pz (C1 Mv (C1 Pz (C1 V2 (cT (Hr ?_)))))))))));refine AI (Ai (Am (cS (C1 Mv (C1 Pz (C1 Mv (cT (AL ?_))))))));rotate_left
   replace hs:=CE _ _ hs;replace hs':=CE _ _ hs';refine Bp (ι:=Nat) (fun j=>[(1,.slice a' q.length c'),(2,.func (.func 20) #[] #[]),(15,.slice a l.length c),(16,.int .i64 l.length),(17,.int .i64 j)])
    (fun j w'=>j≤l.length∧rowSits (· < w.heap.size) w' l a∧rowSits (· < w.heap.size) w' q a'∧DL l q=DL (l.drop j) (q.drop j)∧Ext w w') (fun j=>l.length-j) 0 sB ⟨Nat.zero_le _,hs,hs',rfl,X⟩ ?_
   clear hs hs' X;rintro j w1 ⟨hj,hs,hs',he,X⟩;have hsz:=X.size
   by_cases hlt:j<l.length
   · have d:j<q.length:=by omega
     obtain ⟨kb,ko,rfl,hkS,hkid⟩:=CB hs (by intro e;subst e;simp at hlt);obtain ⟨kb',ko',rfl,hkS',hkid'⟩:=CB hs' (by intro e;subst e;simp at d);obtain ⟨xa,xc,rx,sx⟩:=hkid j l[j] (List.getElem?_eq_getElem hlt);obtain ⟨ya,yc,ry,sy⟩:=hkid' j q[j] (List.getElem?_eq_getElem d);have HC:=H.out l[j] (List.getElem_mem hlt) q[j];rw [Ra hlt d] at he;have H2:=Lib.hid HC;clear HC hkid hkid' H
     generalize l[j]=x at *
     generalize q[j]=y at *
     focus
      refine eK ?_;refine C1 (Gf rx) (eA [_,_,_,_] ?_);intro D E o p F G;revert X hs hs' rx sx ry sy;refine eE p ?_;intro X hs hs' rx sx ry sy;refine C1 Pa (eS [_,_,_,_] o ?_);intro I b i r;revert X hs hs' rx sx ry sy;refine eF i ?_;intro X hs hs' rx sx ry sy;refine eK ?_;refine C1 (Gf ry) (AB [_,_,_,_] Bm rfl rfl ?_);intro s t k;refine eI [_,_,_,_] k ?_;intro u f m v z;revert b X hs hs' rx sx ry sy;refine eE m ?_;intro b X hs hs' rx sx ry sy;refine eK ?_;refine Ae [_,_,_,_] Aa rfl rfl rfl b rfl rfl rfl (Ae [_,_,_,_] Aa rfl rfl rfl f rfl rfl rfl ?_);refine AS (BS (fi:=[]) (ca:=[]) (by kernel_rfl) rfl rfl (H2.out _ _ _ _ _ _ _ ‹_› ‹_›) (fun _ _ h=>⟨_,h.1⟩)) rfl ?_ (fun _ h=>h);rintro A B ⟨⟨⟩,n⟩;revert f b X hs hs' rx sx ry sy;refine eY n ?_;intro C f b X hs hs' rx sx ry sy;refine C1 Pt (cT ?_);refine JT rfl (fun g=>?_) (fun g=>?_);refine eK ?_;refine Af rfl rfl ?_;rotate_left;refine AI (An (Ai (Ah (C1 V7 (C1 Mv (Aj ?_))))));rotate_left
     · exact ⟨by rw [he,g];rfl,X⟩
     · rw [g,Bool.true_and] at he
       exact AY (j+1) sB ⟨by omega,hs,hs',he,X⟩ (by omega)
   · obtain rfl:j=l.length:=by omega
     rw [List.drop_length,hne,List.drop_length] at he
     focus
      refine eK ?_;refine Af rfl rfl ?_;rotate_left
     exact ⟨by rw [he];rfl,X⟩
 · rw [Ke hne];refine Ad func49 ntmps49 rfl rfl ?_
   focus
    refine eK ?_;refine Af rfl rfl ?_;rotate_left
   exact ⟨rfl,X⟩
theorem D9 : ∀ {l:List Nd} {x:Nd},x∈l→x.size≤Au l
 | [],x,hx=>by cases hx
 | t::r,x,hx=>by
  simp only [Au]
  rcases List.mem_cons.1 hx with rfl|hx
  · omega
  · have:=D9 hx;omega
theorem EV (l:List Nd):l.length≤Au l:=by
 induction l with
 | nil=>simp [Au]
 | cons x r ih=>
  have:1≤x.size:=by cases x;simp only [Nd.size];omega
  simp only [Au,List.length_cons];omega
theorem T2 (N:Nat) : ∀(t u:Nd) (S S':Nat→Prop) (a a':Option Addr) (c c':Nat) (w:World),t.size<N→t.size≤1000000000→t.sits S w a→u.sits S' w a' →
 Calls prog 20 #[t.val a c,u.val a' c'] w fun e w'=>e = .returned (.bool (t.eqb u))∧Ext w w':=by
 induction N with
 | zero=>intro t u S S' a a' c c' w h;omega
 | succ N ih=>
  rintro ⟨k,n,s,l⟩ ⟨k',n',s',q⟩ S S' a a' c c' w hN hM hs hs';simp only [Nd.sits] at hs hs';simp only [Nd.size] at hN hM;have hll:=EV l
  have hC : ∀x∈l,∀y,W0 x y:=fun x hx y S S' a a' c c' w h1 h2=>by
   have:=D9 hx
   exact ih x y S S' a a' c c' w (by omega) (by omega) h1 h2
  have HF:=Lib.hid (fun w=>Ng l q hC S S' a a' c c' w (by omega));clear hC ih;simp only [Nd.val,Nd.kind,Nd.num,Nd.name,Nd.kids]
  unfold Nd.eqb
  have X:=Ext.refl w
  by_cases hk:k=k'
  · by_cases hn:n=n'
    · by_cases hsn:s=s'
      · rw [decide_eq_true hk,decide_eq_true hn,decide_eq_true hsn,Bool.true_and,Bool.true_and,Bool.true_and];subst hk hn hsn;refine Ad func20 ntmps20 rfl rfl ?_
        focus
         refine cS (eB [_,_,_,_] ?_);intro b1 w2 h4 x5 p6 z7;revert hs hs' X;refine eE x5 ?_;intro hs hs' X;refine eB [_,_,_,_] ?_;intro b8 w9 b o J K;revert h4 hs hs' X;refine eE o ?_;intro h4 hs hs' X;refine C1 Pa (cN (C1 Pg (C1 (Pl h4) (C1 Pg (C1 (Pl b) (C1 V1 (C1 Mv (RZ (C1 Pf (RZ (C1 (Pl h4) ?_)))))))))));refine RZ (C1 Pf (RZ (C1 (Pl b) (RZ (C1 V1 (C1 Wa (C1 Mv (RZ (C1 Pf (RZ (C1 (Pl h4) ?_)))))))))));refine RZ (C1 Pf (RZ (C1 (Pl b) (RZ (C1 V8 (C1 Wa (C1 Mv (BT rfl rfl rfl (B6 (rfl)) (C1 Pf (BT rfl rfl rfl (B6 (rfl)) (C1 (Pl h4) ?_)))))))))));refine BT rfl rfl rfl (B6 (rfl)) (C1 Pf (BT rfl rfl rfl (B6 (rfl)) (C1 (Pl b) (BT rfl rfl rfl (B6 (rfl)) (cC rfl (HF.out _ ‹_› ‹_›) ?_)))));rintro _ L ⟨⟨⟩,p⟩;revert b h4 hs hs' X;refine eY p ?_;intro M b h4 hs hs' X;refine C1 (Qy (rfl)) ?_;refine eK ?_;refine Af rfl rfl ?_;rotate_left
        exact ⟨rfl,X⟩
      · rw [decide_eq_true hk,decide_eq_true hn,decide_eq_false hsn,Bool.true_and,Bool.true_and,Bool.false_and];subst hk hn;refine Ad func20 ntmps20 rfl rfl ?_
        focus
         refine cS (eB [_,_,_,_] ?_);intro O Q d r R T;revert hs hs' X;refine eE r ?_;intro hs hs' X;refine eB [_,_,_,_] ?_;intro U V A f B C;revert d hs hs' X;refine eE f ?_;intro d hs hs' X;refine eK ?_;refine Af rfl rfl ?_;rotate_left
        exact ⟨rfl,X⟩
    · rw [decide_eq_true hk,decide_eq_false hn,Bool.true_and,Bool.false_and];subst hk;refine Ad func20 ntmps20 rfl rfl ?_
      focus
       refine cS (eB [_,_,_,_] ?_);intro W Y g v Z aa;revert hs hs' X;refine eE v ?_;intro hs hs' X;refine eB [_,_,_,_] ?_;intro ab ac D i E F;revert g hs hs' X;refine eE i ?_;intro g hs hs' X;refine eK ?_;refine C1 (Bj rfl rfl rfl) ?_;refine eK ?_;refine Af rfl rfl ?_;rotate_left
      exact ⟨rfl,X⟩
  · rw [decide_eq_false hk,Bool.false_and];refine Ad func20 ntmps20 rfl rfl ?_
    focus
     refine cS (eB [_,_,_,_] ?_);intro ad ae j z af ag;revert hs hs' X;refine eE z ?_;intro hs hs' X;refine eB [_,_,_,_] ?_;intro ah ai G m H I;revert j hs hs' X;refine eE m ?_;intro j hs hs' X;refine eK ?_;refine C1 (Bj rfl rfl rfl) ?_;refine eK ?_;refine C1 (Bj rfl rfl rfl) ?_;refine eK ?_;refine Af rfl rfl ?_;rotate_left
    exact ⟨rfl,X⟩
end Bk
