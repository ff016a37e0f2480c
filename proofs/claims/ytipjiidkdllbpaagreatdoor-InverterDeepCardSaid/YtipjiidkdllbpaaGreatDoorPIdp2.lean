/- Texts that the proofs of InverterDeep need. No condition. (Part 2 of 8.) -/
import Derived.Test.YtipjiidkdllbpaaGreatDoorPIdp1
set_option linter.unusedSimpArgs false
set_option linter.unusedVariables false
set_option maxRecDepth 100000
set_option maxHeartbeats 4000000
open Go.Proofs.Tryz
namespace Bk
open Go Go.RowKit
def CX (late:List Nat) (i:Nat):Bool:= !(late.contains i)
def Me (ops:Array Oper) (late free0:List Nat) (i:Nat):Prop:= ∀(listed:Array Bool) (j:Nat) (o:Oper),DC ops listed→(∀k∈free0,listed.getD k false=true)→listed.getD j true=false→CX late j=false→ops[j]? = some o→(∀e∈o.after,Region.binds .any e=true→listed.getD e.on false=true)→listed.getD i false=true
def Mf (ops:Array Oper) (late free0:List Nat) (j0:Nat):Bool:=((List.range ops.size).all fun i=> !(CX late i)||(List.range' (i+1) (ops.size-(i+1))).any fun m=>(Nat.beq m j0||CX late m)&&Ij ops m i)&&late.all fun j=>free0.contains j||(Nat.beq j j0||Ij ops j j0)
theorem J0 {ops:Array Oper} {late free0:List Nat} {j0:Nat} (h:Mf ops late free0 j0=true) {i:Nat} (hi:i<ops.size) (hE:CX late i=true):Me ops late free0 i:=by
 simp only [Mf,Bool.and_eq_true,List.all_eq_true,List.mem_range] at h;obtain ⟨h1,h2⟩:=h;intro listed j o hdc hF hun hj ho hall
 have hjm:j∈late:=by
  unfold CX at hj
  simpa using hj
 have a:=h2 j hjm
 have a:(Nat.beq j j0||Ij ops j j0)=true:=by
  rw [Bool.or_eq_true] at a
  rcases a with hc|hc
  · exfalso
    have hl:=hF j (by simpa using hc)
    rcases Nat.lt_or_ge j listed.size with h'|h'
    · simp [h'] at hl hun;rw [hl] at hun;cases hun
    · simp [Array.getElem?_eq_none h'] at hl
  · exact hc
 simp only [Bool.or_eq_true] at a
 have b : ∀o0,ops[j0]? = some o0 → ∀e∈o0.after,Region.binds .any e=true→listed.getD e.on false=true:=by
  intro o0 c
  rcases a with a|a
  · have hjj:=Nat.eq_of_beq_eq_true a
    subst hjj;rw [ho] at c;obtain rfl:=Option.some.inj c
    exact hall
  · obtain ⟨oj,e',hoj,he',hb',hon'⟩:=Et a
    rw [ho] at hoj;obtain rfl:=Option.some.inj hoj;have hl:=hall e' he' hb';rw [hon'] at hl
    exact hdc j0 o0 c hl
 have key : ∀d i,ops.size-i≤d→i<ops.size→CX late i=true→listed.getD i false=true:=by
  intro d
  induction d with
  | zero=>intro i hd hi;omega
  | succ d ih=>
   intro i hd hi hE;have hg:=h1 i hi;rw [hE] at hg;simp only [Bool.not_true,Bool.false_or,List.any_eq_true,List.mem_range'_1,Bool.and_eq_true,Bool.or_eq_true] at hg;obtain ⟨m,hm,hc,hw⟩:=hg;obtain ⟨om,e,hom,he,hb,hon⟩:=Et hw
   rcases hc with hc|hc
   · have hmj:=Nat.eq_of_beq_eq_true hc
     subst hmj;have:=b om hom e he hb
     rwa [hon] at this
   · have hl:=ih m (by omega) (by omega) hc
     have:=hdc m om hom hl e he hb
     rwa [hon] at this
 exact key _ i (Nat.le_refl _) hi hE
section
variable {P:Program} {ops:Array Oper} {Q:Exit→Act→World→Prop} {S S2:World→Prop} {late free0:List Nat} {K:Nat}
def I2 (P:Program) (ops:Array Oper) (Q:Exit→Act→World→Prop) (S S2:World→Prop) (late:List Nat) (K:Nat):Nat→Array Bool→Act→World→Prop
 | 0,listed,a,w=>Region.ready .any ops listed=[]∧Q .normal a w
 | fuel+1,listed,a,w=>
  (Region.ready .any ops listed=[]→Q .normal a w) ∧
  ∀i∈Region.ready .any ops listed,wpOp P ops Q i (fun a' w'=>(CX late i=true→S w')∧(i<K→S2 w')∧I2 P ops Q S S2 late K fuel (listed.setIfInBounds i true) a' w') a w
theorem J1 : ∀(fuel:Nat) (listed:Array Bool) (a:Act) (w:World),I2 P ops Q S S2 late K fuel listed a w→wpAny P .any ops Q fuel listed a w
 | 0,_,_,_,h=>h
 | fuel+1,_,_,_,h=>⟨h.1,fun i hi=>wpOp_mono (fun a' w' h'=>J1 fuel _ a' w' h'.2.2) (h.2 i hi)⟩
theorem Li {listed:Array Bool} {j k:Nat} (h:listed.getD k false=true):(listed.setIfInBounds j true).getD k false=true:=by
 by_cases hjk:j=k
 · subst hjk
   rcases Nat.lt_or_ge j listed.size with h'|h'
   · simp [h']
   · simp [Array.getElem?_eq_none h'] at h
 · rw [getD_set_ne false hjk];exact h
theorem Im {i:Nat} {oi:Oper} {v:Value} {T:World→Prop} (hi:ops[i]? = some oi) (hSS : ∀w,S w→S2 w) (hT:(CX late i=true∧Me ops late free0 i∧T=S)∨(CX late i=false∧ES ops K i∧T=S2)) (hsel : ∀(j:Nat) (o:Oper) cs b,ops[j]? = some o→o.op≠.select cs b)
 (hQ : ∀c a w,Q (.panic c) (a.put oi.dst v) w→Q (.panic c) a w) :
 ∀(fuel:Nat) (listed:Array Bool) (a:Act) (w:World),DC ops listed→(CX late i=true → ∀k∈free0,listed.getD k false=true) →
  (∀j oj,ops[j]? = some oj→j≠i→listed.getD j true=false→(∀e∈oj.after,Region.binds .any e=true→e.on≠i)→oi.apart ops oj=true) →
  i∈Region.ready .any ops listed→YieldsIf P ops T oi v a→T w →
  I2 P ops Q S S2 late K fuel (listed.setIfInBounds i true) (a.put oi.dst v) w→I2 P ops Q S S2 late K (fuel+1) listed a w:=by
 have hSi : ∀w,T w→CX late i=true→S w:=fun w h he=>by
  rcases hT with ⟨-,-,rfl⟩|⟨h0,-⟩
  · exact h
  · rw [h0] at he;cases he
 have hSi2 : ∀w,T w→S2 w:=fun w h=>by
  rcases hT with ⟨-,-,rfl⟩|⟨-,-,rfl⟩
  · exact hSS w h
  · exact h
 intro fuel
 induction fuel with
 | zero=>
  intro listed a w _ _ _ hr hy hS H;refine ⟨fun h=>(by rw [h] at hr;cases hr),fun j hj=>?_⟩
  by_cases hji:j=i
  · subst hji;exact hy.wpOp hi hS ⟨hSi w hS,fun _=>hSi2 w hS,H⟩
  · have:=ready_mono hj hji
    rw [H.1] at this
    cases this
 | succ fuel ih=>
  intro listed a w hdc hF hfree hr hy hS H;refine ⟨fun h=>(by rw [h] at hr;cases hr),fun j hj=>?_⟩
  by_cases hji:j=i
  · subst hji;exact hy.wpOp hi hS ⟨hSi w hS,fun _=>hSi2 w hS,H⟩
  · have h1:=H.2 j (ready_mono hj hji)
    obtain ⟨hjun,oj,hoj,hall⟩:=mem_ready.1 hj
    have hun : ¬listed.getD i false=true:=fun hc=>by
     have h0:=(mem_ready.1 hr).1
     rcases Nat.lt_or_ge i listed.size with h'|h'
     · simp [h'] at h0 hc;rw [h0] at hc;cases hc
     · simp [Array.getElem?_eq_none h'] at hc
    have hTj : ∀w',(CX late j=true→S w')→(j<K→S2 w')→T w':=fun w' h' h2=>by
     rcases hT with ⟨hEi,hre,rfl⟩|⟨-,hre,rfl⟩
     · cases hej:CX late j
       · exact absurd (hre listed j oj hdc (hF hEi) hjun hej hoj hall) hun
       · exact h' hej
     · rcases Nat.lt_or_ge j K with h|h
       · exact h2 h
       · exact absurd (hre listed j oj hdc h hoj hall) hun
    have hnot : ∀e∈oj.after,Region.binds .any e=true→e.on≠i:=fun e he hb heq=>hun (heq▸hall e he hb)
    have h2:=wpOp_putIf hoj (hfree j oj hoj hji hjun hnot) (fun cs b=>hsel i oi cs b hi) (fun cs b=>hsel j oj cs b hoj) hQ hy h1;have hfree' : ∀k ok,ops[k]? = some ok→k≠i→(listed.setIfInBounds j true).getD k true=false →
     (∀e∈ok.after,Region.binds .any e=true→e.on≠i)→oi.apart ops ok=true:=fun k ok hk hki hun hno=>by
     refine hfree k ok hk hki ?_ hno
     by_cases hjk:j=k
     · subst hjk;exact hjun
     · rw [getD_set_ne true hjk] at hun;exact hun
    refine wpOp_mono (fun a' w' h3=>⟨h3.2.1,h3.2.2.1,ih (listed.setIfInBounds j true) a' w' (hdc.set hj) (fun hE k hk=>Li (hF hE k hk)) hfree' (ready_mono hr (Ne.symm hji)) h3.1 (hTj w' h3.2.1 h3.2.2.1) ?_⟩) h2;rw [Array.setIfInBounds_comm _ _ hji]
    exact h3.2.2.2
end
inductive ScE where
 | done
 | pure (i:Nat) (r:ScE)
 | free (i:Nat) (r:ScE)
 | put (i:Nat) (r:ScE)
 | tail (k:Nat)
def ScE.ok (ops:Array Oper) (late free0:List Nat) (K:Nat):ScE→Nat→Array Bool→Bool
 | .done,_,listed=>(Region.ready .any ops listed).isEmpty
 | .pure i r,f+1,listed=>(free0.all fun k=>listed.getD k false)&&CX late i&&(Region.ready .any ops listed).contains i&&Region.free .any ops listed i&&ScE.ok ops late free0 K r f (listed.setIfInBounds i true)
 | .free i r,f+1,listed=> !(CX late i)&&Nat.blt i K&&(Region.ready .any ops listed).contains i&&Region.free .any ops listed i&&ScE.ok ops late free0 K r f (listed.setIfInBounds i true)
 | .put i r,f+1,listed=> !(CX late i)&&(Region.ready .any ops listed==[i])&&ScE.ok ops late free0 K r f (listed.setIfInBounds i true)
 | .tail k,f,listed=>Nat.ble K k&&Nat.beq (f+k) ops.size&&(List.range' k f).all (fun j=> !(CX late j))&&EV ops f k listed
 | _,_,_=>false
def HTE (P:Program) (ops:Array Oper) (Q:Exit→Act→World→Prop) (S S2:World→Prop):ScE→Act→World→Prop
 | .done,a,w=>Q .normal a w
 | .pure i r,a,w=>S w ∧ ∃o v,ops.toList[i]? = some o∧YieldsIf P ops S o v a∧HTE P ops Q S S2 r (a.put o.dst v) w
 | .free i r,a,w=>S2 w ∧ ∃o v,ops.toList[i]? = some o∧YieldsIf P ops S2 o v a∧HTE P ops Q S S2 r (a.put o.dst v) w
 | .put i r,a,w=>wpOp P ops Q i (fun a' w'=>S2 w'∧HTE P ops Q S S2 r a' w') a w
 | .tail k,a,w=>wpList P ops Q (ops.toList.drop k) a w
theorem Ho {P:Program} {ops:Array Oper} {Q:Exit→Act→World→Prop} {S S2:World→Prop} {late:List Nat} {K:Nat} : ∀(f k:Nat) (listed:Array Bool) (a:Act) (w:World),K≤k→f+k=ops.size→(∀j,k≤j→j<k+f→CX late j=false)→EV ops f k listed=true→wpList P ops Q (ops.toList.drop k) a w→I2 P ops Q S S2 late K f listed a w
 | 0,k,listed,a,w,hK,hf,hl,hc,h=>by
  have:ops.toList.drop k=[]:=List.drop_eq_nil_of_le (by simp;omega);rw [this] at h
  exact ⟨by simpa [EV] using hc,h⟩
 | f+1,k,listed,a,w,hK,hf,hl,hc,h=>by
  simp only [EV,Bool.and_eq_true,beq_iff_eq] at hc
  have hlt:k<ops.toList.length:=by simp;omega
  rw [List.drop_eq_getElem_cons hlt] at h;refine ⟨fun e=>absurd (hc.1.symm.trans e) (by simp),fun i hi=>?_⟩;rw [hc.1] at hi;simp only [List.mem_singleton] at hi;subst hi;have he:=hl i (Nat.le_refl _) (by omega)
  have hl' : ∀j,i+1≤j→j<i+1+f→CX late j=false:=fun j h1 h2=>hl j (by omega) (by omega)
  have ho:ops[i]? = some ops.toList[i]:=by simp
  unfold wpList at h
  unfold wpOp
  rw [ho];simp only
  split
  · rename_i hw
    rw [if_pos hw] at h
    rcases h with h|h
    · exact Or.inl (Oper.wp_mono (fun a' w' h'=>⟨fun e=>(by rw [he] at e;cases e),fun e=>by omega,Ho f (i+1) _ a' w' (by omega) (by omega) hl' hc.2 h'⟩) h)
    · exact Or.inr h
  · rename_i hw
    rw [if_neg hw] at h
    exact ⟨fun e=>(by rw [he] at e;cases e),fun e=>by omega,Ho f (i+1) _ _ w (by omega) (by omega) hl' hc.2 h⟩
theorem HTE.any {P:Program} {ops:Array Oper} {Q:Exit→Act→World→Prop} {S S2:World→Prop} {late free0:List Nat} {K:Nat} (hSS : ∀w,S w→S2 w) (hre2 : ∀i,i<K→ES ops K i) (hs:Region.noSelect ops=true) (hre : ∀i,i<ops.size→CX late i=true→Me ops late free0 i) (hQ:DI Q) :
 ∀(s:ScE) (f:Nat) (listed:Array Bool) (a:Act) (w:World),DC ops listed→HTE P ops Q S S2 s a w→ScE.ok ops late free0 K s f listed=true→I2 P ops Q S S2 late K f listed a w
 | .done,f,listed,a,w,hd,h,hk=>by
  have hr:Region.ready .any ops listed=[]:=by simpa [ScE.ok] using hk
  cases f with
  | zero=>exact ⟨hr,h⟩
  | succ f=>exact ⟨fun _=>h,by rw [hr];simp⟩
 | .tail k,f,listed,a,w,hd,h,hk=>by
  simp only [ScE.ok,Bool.and_eq_true,List.all_eq_true,List.mem_range'_1] at hk
  exact Ho f k listed a w (Nat.le_of_ble_eq_true hk.1.1.1) (Nat.eq_of_beq_eq_true hk.1.1.2) (fun j h1 h2=>by simpa using hk.1.2 j ⟨h1,h2⟩) hk.2 h
 | .pure i r,0,listed,a,w,hd,h,hk=>by simp [ScE.ok] at hk
 | .pure i r,f+1,listed,a,w,hd,h,hk=>by
  simp only [ScE.ok,Bool.and_eq_true] at hk;obtain ⟨hS,o,v,ho,hy,hr⟩:=h
  have hi:ops[i]? = some o:=by simpa using ho
  have hil:i<ops.size:=(Array.getElem?_eq_some_iff.1 hi).1
  have hir:i∈Region.ready .any ops listed:=by simpa using hk.1.1.2
  exact Im (T:=S) (free0:=free0) hi hSS (Or.inl ⟨hk.1.1.1.2,hre i hil hk.1.1.1.2,rfl⟩) (Region.noSelect_spec hs) (fun c a w=>hQ o.dst v c a w) f listed a w hd (fun _ k hkm=>List.all_eq_true.1 hk.1.1.1.1 k hkm) (Region.free_spec hi hk.1.2) hir hy hS
   (HTE.any hSS hre2 hs hre hQ r f _ _ w (hd.set hir) hr hk.2)
 | .free i r,0,listed,a,w,hd,h,hk=>by simp [ScE.ok] at hk
 | .free i r,f+1,listed,a,w,hd,h,hk=>by
  simp only [ScE.ok,Bool.and_eq_true,Bool.not_eq_true'] at hk;obtain ⟨hS,o,v,ho,hy,hr⟩:=h
  have hi:ops[i]? = some o:=by simpa using ho
  have hir:i∈Region.ready .any ops listed:=by simpa using hk.1.1.2
  have hiK:=Nat.le_of_ble_eq_true hk.1.1.1.2
  exact Im (T:=S2) (free0:=free0) hi hSS (Or.inr ⟨hk.1.1.1.1,hre2 i hiK,rfl⟩) (Region.noSelect_spec hs) (fun c a w=>hQ o.dst v c a w) f listed a w hd (fun e=>(by rw [hk.1.1.1.1] at e;cases e)) (Region.free_spec hi hk.1.2) hir hy hS
   (HTE.any hSS hre2 hs hre hQ r f _ _ w (hd.set hir) hr hk.2)
 | .put i r,0,listed,a,w,hd,h,hk=>by simp [ScE.ok] at hk
 | .put i r,f+1,listed,a,w,hd,h,hk=>by
  simp only [ScE.ok,Bool.and_eq_true,Bool.not_eq_true',beq_iff_eq] at hk;obtain ⟨⟨h1,h2⟩,h3⟩:=hk;refine ⟨fun e=>(by rw [h2] at e;cases e),fun j hj=>?_⟩;rw [h2] at hj;simp only [List.mem_singleton] at hj;subst hj
  have hir:j∈Region.ready .any ops listed:=by rw [h2];simp
  exact wpOp_mono (fun a' w' h'=>⟨fun e=>(by rw [h1] at e;cases e),fun _=>h'.1,HTE.any hSS hre2 hs hre hQ r f _ a' w' (hd.set hir) h'.2 h3⟩) h
def TG (P:Program) (n:Nat) (ops:Array Oper) (Q:Exit→Act→World→Prop) (S S2:World→Prop) (s:ScE) (l:Sl) (w:World):Prop:= ∀a,Env n l a→HTE P ops Q S S2 s a w
section draws
variable {P:Program} {n:Nat} {ops:Array Oper} {Q:Exit→Act→World→Prop} {S S2:World→Prop} {l:Sl} {w:World}
 {d i:Nat} {ty:TypeId} {pos:String} {after:Array Edge} {r:ScE}
theorem FR {id:Nat} {os:List Oper} (S S2:World→Prop) (late free0:List Nat) (j0 K:Nat) (s:ScE) (hSS : ∀w,S w→S2 w) (hm:P.follows .mixedOrders=true) (hs:(Region.noSelect os.toArray&&(Nat.ble os.length K||JV os.toArray K)&&Mf os.toArray late free0 j0&&ScE.ok os.toArray late free0 K s os.length (Array.replicate os.length false))=true) (hQ:DI Q)
 (h : ∀w1,Ext w w1→w1.heap=w.heap→TG P n os.toArray Q S S2 s l w1):CW P n (.region id os.toArray true) Q l w:=by
 unfold CW
 intro a ha;simp only [Bool.and_eq_true] at hs;have h2:=h w.drew (Ext.refl w).drew rfl
 have hdc:DC os.toArray (Array.replicate os.length false):=fun k o _ hl=>by
  exfalso
  rcases Nat.lt_or_ge k os.length with h'|h'
  · simp [h'] at hl
  · simp [Array.getElem?_eq_none,h'] at hl
 have b : ∀i,i<K→ES os.toArray K i:=by
  by_cases hK:K<os.toArray.size
  · have hl:=hs.1.1.2
    simp only [Bool.or_eq_true] at hl
    rcases hl with hl|hl
    · have:=Nat.le_of_ble_eq_true hl
      simp at hK;omega
    · exact FI hl hK
  · intro i hi listed j o _ hj ho _
    have hjs:j<os.toArray.size:=(Array.getElem?_eq_some_iff.1 ho).1
    omega
 refine wp_region_any hm (J1 (S:=S) (S2:=S2) (late:=late) (K:=K) _ _ _ _ ?_);have:=HTE.any hSS b hs.1.1.1 (fun i hi hE=>J0 hs.1.2 hi hE) hQ s os.length (Array.replicate os.length false) a w.drew hdc (h2 a ha) hs.2
 simpa using this
theorem Eh {os:List Oper} {k:Nat} (he:Lw k ops.toList=some os) (h:LW P n ops Q os l w):TG P n ops Q S S2 (.tail k) l w:=by
 unfold LW at h
 intro a ha
 show wpList P ops Q (ops.toList.drop k) a w
 rw [Hm he];exact h a ha
theorem Ar {op:Op} {v:Value} (hS:S w) (hi:ops.toList[i]? = some ⟨some d,op,ty,pos,after,none⟩) (hp:BE P n l S op ty v) (hd:Nat.blt d n=true) (k:TG P n ops Q S S2 r ((d,v)::l) w) :
 TG P n ops Q S S2 (.pure i r) l w:=by
 unfold BE at hp
 exact fun a ha=>⟨hS,_,v,hi,Or.inl ⟨rfl,fun w hS=>hp a w _ _ _ _ ha hS⟩,k _ (ha.put hd v)⟩
theorem BI {op:Op} {v:Value} (hS:S2 w) (hi:ops.toList[i]? = some ⟨some d,op,ty,pos,after,none⟩) (hp:BE P n l S2 op ty v) (hd:Nat.blt d n=true) (k:TG P n ops Q S S2 r ((d,v)::l) w) :
 TG P n ops Q S S2 (.free i r) l w:=by
 unfold BE at hp
 exact fun a ha=>⟨hS,_,v,hi,Or.inl ⟨rfl,fun w hS=>hp a w _ _ _ _ ha hS⟩,k _ (ha.put hd v)⟩
theorem Ei {op:Op} {K':Option Value→World→Prop} (hi:ops.toList[i]? = some ⟨none,op,ty,pos,after,none⟩) (hp:Cj P n l op ty w K')
 (k : ∀v w1,K' v w1→S2 w1∧TG P n ops Q S S2 r l w1):TG P n ops Q S S2 (.put i r) l w:=fun a ha=>by
 unfold Cj at hp
 have hi':ops[i]? = some ⟨none,op,ty,pos,after,none⟩:=by simpa using hi
 show wpOp P ops Q i _ a w
 unfold wpOp
 rw [hi'];simp only;rw [if_pos (Bv rfl)]
 left
 exact hp a _ _ _ _ _ _ ha (fun v w1 hK=>⟨(k _ w1 hK).1,(k _ w1 hK).2 _ ha⟩) (fun w1 h=>⟨(k _ w1 h).1,(k _ w1 h).2 _ ha⟩)
end draws
open Go.Proofs
attribute [local irreducible] Go.Calls
def MQ (x:Int):Int:=IntKind.i64.wrap x
def Oz (op:BinOp) (x y:Int):Int:=match op with
 | .and=>MQ (BitVec.ofInt 64 x &&& BitVec.ofInt 64 y).toNat
 | .or=>MQ (BitVec.ofInt 64 x ||| BitVec.ofInt 64 y).toNat
 | _=>MQ (BitVec.ofInt 64 x ^^^ BitVec.ofInt 64 y).toNat
section
variable {P:Program} {n:Nat} {l:Sl} {S:World→Prop} {ty:TypeId} {x y:Operand} {t t':Nat} {a b:Int}
theorem TH (hx:ev l x=some (.int .i64 a)) (hy:ev l y=some (.int .i64 b)):BE P n l S (.binOp .and t x y t') ty (.int .i64 (Oz .and a b)):=by
 unfold BE
 intro d w dst pos after g ha _;simp only [execOp,ha.ev hx,ha.ev hy,Sem.run_bind,Bx,Result.andThen,binOp,Op.intBits]
 rfl
theorem U8 (hx:ev l x=some (.int .i64 a)) (hy:ev l y=some (.int .i64 b)):BE P n l S (.binOp .or t x y t') ty (.int .i64 (Oz .or a b)):=by
 unfold BE
 intro d w dst pos after g ha _;simp only [execOp,ha.ev hx,ha.ev hy,Sem.run_bind,Bx,Result.andThen,binOp,Op.intBits]
 rfl
theorem PF (hx:ev l x=some (.int .i64 a)) (hy:ev l y=some (.int .i64 b)):BE P n l S (.binOp .xor t x y t') ty (.int .i64 (Oz .xor a b)):=by
 unfold BE
 intro d w dst pos after g ha _;simp only [execOp,ha.ev hx,ha.ev hy,Sem.run_bind,Bx,Result.andThen,binOp,Op.intBits]
 rfl
theorem J2 (hx:ev l x=some (.int .i64 a)) (hy:ev l y=some (.int .i64 b)):BE P n l S (.binOp .add t x y t') ty (.int .i64 (MQ (a+b))):=Ed hx hy rfl
theorem MX (hx:ev l x=some (.int .i64 a)) (hy:ev l y=some (.int .i64 b)):BE P n l S (.binOp .sub t x y t') ty (.int .i64 (MQ (a-b))):=Bs hx hy rfl
theorem RZ (hx:ev l x=some (.int .i64 a)) (hy:ev l y=some (.int .i64 b)):BE P n l S (.binOp .mul t x y t') ty (.int .i64 (MQ (a*b))):=Tw hx hy rfl
theorem R0 (hx:ev l x=some (.int .i64 a)) (hy:ev l y=some (.int .i64 b)) (hb:b≠0):BE P n l S (.binOp .quo t x y t') ty (.int .i64 (MQ (a.tdiv b))):=TD hx hy hb rfl
theorem MY (hx:ev l x=some (.int .i64 a)) (hy:ev l y=some (.int .i64 b)) (hb:b≠0):BE P n l S (.binOp .rem t x y t') ty (.int .i64 (a.tmod b)):=TE hx hy hb rfl
theorem R1 (hx:ev l x=some (.int .i64 a)):BE P n l S (.unOp .neg t x) ty (.int .i64 (MQ (0-a))):=by
 unfold BE
 intro d w dst pos after g ha _
 simp [execOp,ha.ev hx,Op.unary,Op.intArith,MQ]
end
def Tv (b:Bool):Int:=if b then 1 else 0
def R2 (k x y:Int):Int×Int:=if y=0 then (0,11) else if k=11 then (MQ (x.tdiv y),0) else (x.tmod y,0)
def Gc (k x y:Int):Int×Int:=
 if k=8 then (MQ (x+y),0) else if k=9 then (MQ (x-y),0) else if k=10 then (MQ (x*y),0) else if k=11∨k=12 then R2 k x y
 else if k=13 then (Oz .and x y,0) else if k=14 then (Oz .or x y,0) else if k=15 then (Oz .xor x y,0)
 else if k=16 then (Tv (decide (x=y)),0) else if k=17 then (Tv (decide (x≠y)),0) else if k=18 then (Tv (decide (x<y)),0)
 else if k=19 then (Tv (decide (x≤y)),0) else if k=20 then (Tv (decide (y<x)),0) else if k=21 then (Tv (decide (y≤x)),0)
 else if k=22 then (Tv (decide (x≠0∧y≠0)),0) else if k=23 then (Tv (decide (x≠0∨y≠0)),0) else (0,7)
def Gd (k x:Int):Int×Int:=if k=6 then (MQ (0-x),0) else if k=7 then (Tv (decide (x=0)),0) else (0,7)
theorem CY (b:Bool) (w:World):Calls prog 196 #[.bool b] w fun e w'=>e = .returned (.int .i64 (Tv b))∧w=w':=by
 cases b
 · refine Ad func196 ntmps196 rfl rfl ?_
   focus
    refine eK ?_;refine Af rfl rfl ?_;rotate_left
   exact ⟨rfl,rfl⟩
 · refine Ad func196 ntmps196 rfl rfl ?_
   focus
    refine eK ?_;refine Af rfl rfl ?_;rotate_left
   exact ⟨rfl,rfl⟩
theorem MZ (k x y:Int) (w:World):Calls prog 197 #[.int .u8 k,.int .i64 x,.int .i64 y] w fun e w'=>e = .returned (.tuple #[.int .i64 (R2 k x y).1,.int .i64 (R2 k x y).2])∧w=w':=by
 refine Ad func197 ntmps197 rfl rfl ?_
 focus
  refine eK ?_;refine AO rfl (fun c1=>?_) (fun c1=>?_);refine eK ?_;refine AU rfl rfl rfl ?_;rotate_left;refine eK ?_;refine AO rfl (fun c2=>?_) (fun c2=>?_);refine eK ?_;refine C1 (R0 rfl rfl ‹_›) ?_;refine eK ?_;refine AU rfl rfl rfl ?_;rotate_left;refine eK ?_;refine C1 (MY rfl rfl ‹_›) ?_;refine eK ?_;refine AU rfl rfl rfl ?_;rotate_left
 all_goals (refine ⟨?_,rfl⟩;unfold R2;simp [*])
theorem TI (k x:Int) (w:World):Calls prog 190 #[.int .u8 k,.int .i64 x] w fun e w'=>e = .returned (.tuple #[.int .i64 (Gd k x).1,.int .i64 (Gd k x).2])∧w=w':=by
 refine Ad func190 ntmps190 rfl rfl ?_
 focus
  refine eK ?_;refine AO rfl (fun c1=>?_) (fun c1=>?_);refine eK ?_;refine C1 (R1 rfl) ?_;refine eK ?_;refine AU rfl rfl rfl ?_;rotate_left;refine eK ?_;refine AO rfl (fun c2=>?_) (fun c2=>?_);refine eK ?_;refine cC rfl (CY _ _) ?_;rintro _ w3 ⟨⟨⟩,rfl⟩;refine eK ?_;refine AU rfl rfl rfl ?_;rotate_left;refine eK ?_;refine AU rfl rfl rfl ?_;rotate_left
 all_goals (refine ⟨?_,rfl⟩;unfold Gd;simp [*])
set_option maxHeartbeats 8000000 in
theorem TJ (k x y:Int) (w:World):Calls prog 191 #[.int .u8 k,.int .i64 x,.int .i64 y] w fun e w'=>e = .returned (.tuple #[.int .i64 (Gc k x y).1,.int .i64 (Gc k x y).2])∧w=w':=by
 refine Ad func191 ntmps191 rfl rfl ?_
 focus
  refine eK ?_;refine AO rfl (fun c1=>?_) (fun c1=>?_);refine eK ?_;refine C1 (J2 rfl rfl) ?_;refine eK ?_;refine AU rfl rfl rfl ?_;rotate_left;refine eK ?_;refine AO rfl (fun c2=>?_) (fun c2=>?_);refine eK ?_;refine C1 (MX rfl rfl) ?_;refine eK ?_;refine AU rfl rfl rfl ?_;rotate_left;refine eK ?_;refine AO rfl (fun c3=>?_) (fun c3=>?_);refine eK ?_;refine C1 (RZ rfl rfl) ?_;refine eK ?_;refine AU rfl rfl rfl ?_;rotate_left;refine eK ?_;refine AO rfl (fun c4=>?_) (fun c4=>?_);refine eK ?_;refine cC rfl (MZ _ _ _ _) ?_;rintro _ w5 ⟨⟨⟩,rfl⟩;refine eK ?_;refine AU rfl rfl rfl ?_;rotate_left;refine eK ?_;refine AO rfl (fun c6=>?_) (fun c6=>?_);refine eK ?_;refine cC rfl (MZ _ _ _ _) ?_;rintro _ w7 ⟨⟨⟩,rfl⟩;refine eK ?_;refine AU rfl rfl rfl ?_;rotate_left;refine eK ?_;refine AO rfl (fun c8=>?_) (fun c8=>?_);refine eK ?_;refine C1 (TH rfl rfl) ?_;refine eK ?_;refine AU rfl rfl rfl ?_;rotate_left;refine eK ?_;refine AO rfl (fun c9=>?_) (fun c9=>?_);refine eK ?_;refine C1 (U8 rfl rfl) ?_;refine eK ?_;refine AU rfl rfl rfl ?_;rotate_left;refine eK ?_;refine AO rfl (fun a=>?_) (fun a=>?_);refine eK ?_;refine C1 (PF rfl rfl) ?_;refine eK ?_;refine AU rfl rfl rfl ?_;rotate_left;refine eK ?_;refine AO rfl (fun b=>?_) (fun b=>?_);refine eK ?_;refine cC rfl (CY _ _) ?_
  rintro _ n ⟨⟨⟩,rfl⟩;refine eK ?_;refine AU rfl rfl rfl ?_;rotate_left;refine eK ?_;refine AO rfl (fun c=>?_) (fun c=>?_);refine eK ?_;refine cC rfl (CY _ _) ?_;rintro _ o ⟨⟨⟩,rfl⟩;refine eK ?_;refine AU rfl rfl rfl ?_;rotate_left;refine eK ?_;refine AO rfl (fun d=>?_) (fun d=>?_);refine eK ?_;refine cC rfl (CY _ _) ?_;rintro _ p ⟨⟨⟩,rfl⟩;refine eK ?_;refine AU rfl rfl rfl ?_;rotate_left;refine eK ?_;refine AO rfl (fun f=>?_) (fun f=>?_);refine eK ?_;refine cC rfl (CY _ _) ?_;rintro _ q ⟨⟨⟩,rfl⟩;refine eK ?_;refine AU rfl rfl rfl ?_;rotate_left;refine eK ?_;refine AO rfl (fun g=>?_) (fun g=>?_);refine eK ?_;refine cC rfl (CY _ _) ?_;rintro _ r ⟨⟨⟩,rfl⟩;refine eK ?_;refine AU rfl rfl rfl ?_;rotate_left;refine eK ?_;refine AO rfl (fun h=>?_) (fun h=>?_);refine eK ?_;refine cC rfl (CY _ _) ?_;rintro _ s ⟨⟨⟩,rfl⟩;refine eK ?_;refine AU rfl rfl rfl ?_;rotate_left;refine eK ?_;refine AO rfl (fun i=>?_) (fun i=>?_);refine eK ?_;refine CP rfl rfl rfl (fun j=>?_) (fun j=>?_);refine eK ?_;refine cC rfl (CY _ _) ?_;rintro _ t ⟨⟨⟩,rfl⟩;refine eK ?_;refine AU rfl rfl rfl ?_;rotate_left;refine eK ?_;refine cC rfl (CY _ _) ?_;rintro _ u ⟨⟨⟩,rfl⟩;refine eK ?_;refine AU rfl rfl rfl ?_;rotate_left;refine eK ?_;refine AO rfl (fun l=>?_) (fun l=>?_)
  refine eK ?_;refine CP rfl rfl rfl (fun m=>?_) (fun m=>?_);refine eK ?_;refine cC rfl (CY _ _) ?_;rintro _ v ⟨⟨⟩,rfl⟩;refine eK ?_;refine AU rfl rfl rfl ?_;rotate_left;refine eK ?_;refine cC rfl (CY _ _) ?_;rintro _ z ⟨⟨⟩,rfl⟩;refine eK ?_;refine AU rfl rfl rfl ?_;rotate_left;refine eK ?_;refine AU rfl rfl rfl ?_;rotate_left
 all_goals (refine ⟨?_,rfl⟩;unfold Gc;simp [*])
structure VD where
 name:List UInt8
 kind:Int
 len:Int
structure PD where
 name:List UInt8
 params:List VD
 body:Nd
structure PG where
 vars:List VD
 procs:List PD
 main:Nd
def D0 (l:List VD) (s:List UInt8):Option VD:=l.reverse.find? (fun v=>decide (v.name=s))
def ET (l:List VD) (s:List UInt8):Int:=if (D0 l s).isSome then 22 else 0
def Ff (l:List VD) (s:List UInt8) (k:Int):Int:=match D0 l s with
 | none=>6
 | some v=>if v.kind=k then 0 else 7
def B9 (ps:List PD) (s:List UInt8):Option Nat:=ps.findIdx? (fun p=>decide (p.name=s))
def Jj (ps:List PD) (s:List UInt8) (m:Nat):Int:=match B9 ps s with
 | none=>6
 | some i=>if m=((ps[i]?.map fun p=>p.params.length).getD 0) then 0 else 7
def B7 (ps:List PD) (v:List VD) (k:Int) (s:List UInt8) (m:Nat):Int:=
 if k=2 then Ff v s 1 else if k=3 then Ff v s 2 else if k=4∨k=5∨k=44∨k=45 then Ff v s 3
 else if k=54∨k=55 then ET v s else if k=50∨k=51 then Jj ps s m else 0
def J3 (ps:List PD) (v:List VD) (s:List UInt8) (m i:Nat) (x:List UInt8):Int:=match D0 v x with
 | none=>6
 | some d=>match (B9 ps s).bind (ps[·]?) with
  | none=>0
  | some p=>if m≠p.params.length then 0 else match p.params[i]? with
   | none=>0
   | some q=>if d.kind≠q.kind∨d.len≠q.len then 7 else 0
def Cn (k:Int) (s:List UInt8) (i:Nat) (v:List VD):List VD:=
 if k=54∧i=1 then v++[⟨s,1,0⟩] else if k=55∧i=0 then v++[⟨s,3,0⟩] else v
def Mg (e:Int):Nat:=if e=0 then 0 else 1
def Eo (ps:List PD) (v:List VD) (s:List UInt8) (m:Nat):Nat→List Nd→Nat
 | _,[]=>0
 | i,t::r=>Mg (J3 ps v s m i t.name)+Eo ps v s m (i+1) r
mutual
def Nd.flt (ps:List PD) (v:List VD):Nd→Nat
 | .mk k _ s l=>Mg (B7 ps v k s l.length)+if k=50∨k=51 then Eo ps v s l.length 0 l else Ck ps v k s 0 l
def Ck (ps:List PD) (v:List VD) (k:Int) (s:List UInt8):Nat→List Nd→Nat
 | _,[]=>0
 | i,t::r=>t.flt ps (Cn k s i v)+Ck ps v k s (i+1) r
end
def Ct:List VD→List VD→Nat
 | _,[]=>0
 | acc,v::r=>Mg (ET acc v.name)+Ct (acc++[v]) r
def CZ (ps:List PD):Nat→List PD→Nat
 | _,[]=>0
 | i,p::r=>(if (B9 ps p.name).getD i<i then 1 else 0)+Ct [] p.params+p.body.flt ps p.params+CZ ps (i+1) r
def PG.flt (g:PG):Nat:=Ct [] g.vars+CZ g.procs 0 g.procs+g.main.flt g.procs g.vars
def Fg (c:UInt8):Bool:=decide (97≤c.toNat)&&decide (c.toNat≤122)
def C8 (c:UInt8):Bool:=decide (48≤c.toNat)&&decide (c.toNat≤57)
def Hc (c:UInt8):Bool:=decide (c.toNat=32)||decide (c.toNat=9)||decide (c.toNat=13)||decide (c.toNat=10)
def Io (c:UInt8):Bool:=Fg c||C8 c
def M0 (c:UInt8):Bool:= !decide (c.toNat=10)
def GB (p:UInt8→Bool) (s:List UInt8):Nat:=(s.takeWhile p).length
def keywords:List (List UInt8):=[[105,110,116],[97,114,114,97,121],[115,116,97,99,107],[112,114,111,99],[109,97,105,110],[112,117,115,104],[112,111,112],[114,101,97,100],[117,110,114,101,97,100],[119,114,105,116,101],[117,110,119,114,105,116,101],[99,97,108,108],[117,110,99,97,108,108],[105,102],[101,108,115,101],[102,105],[102,114,111,109],[108,111,111,112],[117,110,116,105,108],[108,111,99,97,108],[100,101,108,111,99,97,108],[116,111,112],[115,105,122,101]]
def FA (s:List UInt8):Bool:=keywords.contains s
def pairs:List (List UInt8):=[[58,61],[43,61],[45,61],[94,61],[61,61],[33,61],[60,61],[62,61],[38,38],[124,124]]
def singles:List UInt8:=[43,45,42,47,37,38,124,94,33,61,60,62,40,41,123,125,91,93,59,44]
def GX (s:List UInt8):Nat:=
 if List.isPrefixOf [60,61,62] s then 3 else if pairs.contains (s.take 2) then 2 else if (s.head?.map (singles.contains ·)).getD false then 1 else 0
def Bf:List UInt8→Nat×Nat
 | []=>(3,0)
 | c::r=>if Fg c then (1,GB Io (c::r)) else if C8 c then (2,GB C8 (c::r)) else if Hc c then (4,GB Hc (c::r)) else if c=35 then (5,GB M0 (c::r)) else (3,GX (c::r))
def Cu (s:List UInt8):Bool:= !s.isEmpty&&decide (s.length≤16)&&((Bf s).1==1)&&((Bf s).2==s.length) && !FA s
def Dz (k:Int):Int:=
 if k=23 then 1 else if k=22 then 2 else if k=14 then 3 else if k=15 then 4 else if k=13 then 5
 else if 16≤k∧k≤21 then 6 else if k=8∨k=9 then 7 else if 10≤k∧k≤12 then 8 else if k=6∨k=7 then 9 else 0
def symbols:List (List UInt8):=[[],[],[],[],[],[],[45],[33],[43],[45],[42],[47],[37],[38],[124],[94],[61,61],[33,61],[60],[60,61],[62],[62,61],[38,38],[124,124],[],[],[],[],[],[],[],[],[],[],[],[],[],[],[],[],[43,61],[45,61],[94,61]]
def Fh (k:Int):List UInt8:=symbols.getD k.toNat []
def R3 (k:Int):Bool:=decide (8≤k)&&decide (k≤23)
def CD (n:Int) (s:List UInt8):Bool:=n==0&&Cu s
def plain (n:Int) (s:List UInt8):Bool:=n==0&&s.isEmpty
def Nd.isExpr:Nd→Bool
 | .mk k n s l=>
  if k=1 then decide (0≤n)&&s.isEmpty&&l.isEmpty
  else if k=2∨k=4∨k=5 then CD n s&&l.isEmpty
  else if k=3 then CD n s&&match l with|[x]=>x.isExpr|_=>false
  else if k=6∨k=7 then plain n s&&match l with|[x]=>x.isExpr|_=>false
  else if 8≤k∧k≤23 then plain n s&&match l with|[x,y]=>x.isExpr&&y.isExpr|_=>false
  else false
def Nd.isPlace (t:Nd):Bool:=(t.kind==2||t.kind==3)&&t.isExpr
def Nd.isVar (t:Nd):Bool:=t.kind==2&&t.isExpr
mutual
def Nd.isStmt:Nd→Bool
 | .mk k n s l=>
  if k=40∨k=41∨k=42∨k=56 then plain n s&&match l with|[x,y]=>x.isPlace&&y.isExpr|_=>false
  else if k=43 then plain n s&&match l with|[x,y]=>x.isPlace&&y.isPlace|_=>false
  else if k=44∨k=45 then CD n s&&match l with|[x]=>x.isPlace|_=>false
  else if 46≤k∧k≤49 then plain n s&&match l with|[x]=>x.isPlace|_=>false
  else if k=50∨k=51 then CD n s&&decide (l.length≤8)&&l.all Nd.isVar
  else if k=52∨k=53 then plain n s&&match l with|[x,y,z,u]=>x.isExpr&&y.isBlock&&z.isBlock&&u.isExpr|_=>false
  else if k=54 then CD n s&&match l with|[x,y,z]=>x.isExpr&&y.isBlock&&z.isExpr|_=>false
  else if k=55 then CD n s&&match l with|[x]=>x.isBlock|_=>false
  else false
def Nd.isBlock:Nd→Bool
 | .mk k n s l=>k==57&&plain n s&&DU l
def DU:List Nd→Bool
 | []=>true
 | t::r=>t.isStmt&&DU r
end
def U9 (a k:Int):Bool:=R3 a&&decide (Dz a<Dz k)
def Va (a k:Int):Bool:=R3 a&&decide (Dz a≤Dz k)
def wrap (s:List UInt8) (b:Bool):List UInt8:=if b then [40]++s++[41] else s
def Nd.text:Nd→List UInt8
 | .mk k n s l=>
  if k=1 then Lib.itoa n else if k=2 then s
  else if k=3 then match l with|[x]=>s++[91]++x.text++[93]|_=>[]
  else if k=4 then [116,111,112,40]++s++[41] else if k=5 then [115,105,122,101,40]++s++[41]
  else if k=6∨k=7 then match l with|[x]=>Fh k++wrap x.text (R3 x.kind)|_=>[]
  else match l with
   | [x,y]=>wrap x.text (U9 x.kind k)++[32]++Fh k++[32]++wrap y.text (Va y.kind k)
   | _=>[]
inductive StmtSh:Nd→Prop where
 | upd {k:Int} {x y:Nd}:(k=40∨k=41∨k=42∨k=56)→x.isPlace=true→y.isExpr=true→StmtSh (.mk k 0 [] [x,y])
 | swap {x y:Nd}:x.isPlace=true→y.isPlace=true→StmtSh (.mk 43 0 [] [x,y])
 | stack {k:Int} {s:List UInt8} {x:Nd}:(k=44∨k=45)→Cu s=true→x.isPlace=true→StmtSh (.mk k 0 s [x])
 | tape {k:Int} {x:Nd}:(k=46∨k=47∨k=48∨k=49)→x.isPlace=true→StmtSh (.mk k 0 [] [x])
 | call {k:Int} {s:List UInt8} {l:List Nd}:(k=50∨k=51)→Cu s=true→l.length≤8→l.all Nd.isVar=true→StmtSh (.mk k 0 s l)
 | branch {k:Int} {x y z u:Nd}:(k=52∨k=53)→x.isExpr=true→y.isBlock=true→z.isBlock=true→u.isExpr=true→StmtSh (.mk k 0 [] [x,y,z,u])
 | local_ {s:List UInt8} {x y z:Nd}:Cu s=true→x.isExpr=true→y.isBlock=true→z.isExpr=true→StmtSh (.mk 54 0 s [x,y,z])
 | lstack {s:List UInt8} {x:Nd}:Cu s=true→x.isBlock=true→StmtSh (.mk 55 0 s [x])
theorem Dc {t:Nd} (h:t.isStmt=true):StmtSh t:=by
 obtain ⟨k,n,s,l⟩:=t
 unfold Nd.isStmt at h
 by_cases c1:k=40∨k=41∨k=42∨k=56
 · rw [if_pos c1] at h
   simp only [Bool.and_eq_true,plain,beq_iff_eq,List.isEmpty_iff] at h;obtain ⟨⟨rfl,rfl⟩,h2⟩:=h
   split at h2
   · simp only [Bool.and_eq_true] at h2
     exact .upd c1 h2.1 h2.2
   · cases h2
 rw [if_neg c1] at h
 by_cases c2:k=43
 · rw [if_pos c2] at h
   simp only [Bool.and_eq_true,plain,beq_iff_eq,List.isEmpty_iff] at h;obtain ⟨⟨rfl,rfl⟩,h2⟩:=h;subst c2
   split at h2
   · simp only [Bool.and_eq_true] at h2
     exact .swap h2.1 h2.2
   · cases h2
 rw [if_neg c2] at h
 by_cases c3:k=44∨k=45
 · rw [if_pos c3] at h
   simp only [Bool.and_eq_true,CD,beq_iff_eq] at h;obtain ⟨⟨rfl,hn⟩,h2⟩:=h
   split at h2
   · exact .stack c3 hn h2
   · cases h2
 rw [if_neg c3] at h
 by_cases c4:46≤k∧k≤49
 · rw [if_pos c4] at h
   simp only [Bool.and_eq_true,plain,beq_iff_eq,List.isEmpty_iff] at h;obtain ⟨⟨rfl,rfl⟩,h2⟩:=h
   split at h2
   · exact .tape (by omega) h2
   · cases h2
 rw [if_neg c4] at h
 by_cases c5:k=50∨k=51
 · rw [if_pos c5] at h
   simp only [Bool.and_eq_true,CD,beq_iff_eq,decide_eq_true_eq] at h;obtain ⟨⟨⟨rfl,hn⟩,h1⟩,h2⟩:=h
   exact .call c5 hn h1 h2
 rw [if_neg c5] at h
 by_cases c6:k=52∨k=53
 · rw [if_pos c6] at h
   simp only [Bool.and_eq_true,plain,beq_iff_eq,List.isEmpty_iff] at h;obtain ⟨⟨rfl,rfl⟩,h2⟩:=h
   split at h2
   · simp only [Bool.and_eq_true] at h2
     exact .branch c6 h2.1.1.1 h2.1.1.2 h2.1.2 h2.2
   · cases h2
 rw [if_neg c6] at h
 by_cases c7:k=54
 · rw [if_pos c7] at h
   simp only [Bool.and_eq_true,CD,beq_iff_eq] at h;obtain ⟨⟨rfl,hn⟩,h2⟩:=h;subst c7
   split at h2
   · simp only [Bool.and_eq_true] at h2
     exact .local_ hn h2.1.1 h2.1.2 h2.2
   · cases h2
 rw [if_neg c7] at h
 by_cases c8:k=55
 · rw [if_pos c8] at h
   simp only [Bool.and_eq_true,CD,beq_iff_eq] at h;obtain ⟨⟨rfl,hn⟩,h2⟩:=h;subst c8
   split at h2
   · exact .lstack hn h2
   · cases h2
 rw [if_neg c8] at h
 cases h
theorem DX {t:Nd} (h:StmtSh t):t.isStmt=true:=by
 cases h with
 | upd hk hx hy=>unfold Nd.isStmt;rw [if_pos hk];simp [plain,hx,hy]
 | swap hx hy=>unfold Nd.isStmt;simp [plain,hx,hy]
 | stack hk hs hx=>rcases hk with rfl|rfl<;>(unfold Nd.isStmt;simp [CD,hs,hx])
 | tape hk hx=>rcases hk with rfl|rfl|rfl|rfl<;>(unfold Nd.isStmt;simp [plain,hx])
 | call hk hs hl ha=>rcases hk with rfl|rfl<;>(unfold Nd.isStmt;simp only [CD,hs,ha];simp [hl])
 | branch hk hx hy hz hu=>rcases hk with rfl|rfl<;>(unfold Nd.isStmt;simp [plain,hx,hy,hz,hu])
 | local_ hs hx hy hz=>unfold Nd.isStmt;simp [CD,hs,hx,hy,hz]
 | lstack hs hx=>unfold Nd.isStmt;simp [CD,hs,hx]
theorem I3 {t:Nd} (h:t.isExpr=true):1≤t.kind∧t.kind≤23:=by
 obtain ⟨k,n,s,l⟩:=t
 unfold Nd.isExpr at h
 simp only [Nd.kind]
 by_cases c1:k=1
 · omega
 rw [if_neg c1] at h
 by_cases c2:k=2∨k=4∨k=5
 · omega
 rw [if_neg c2] at h
 by_cases c3:k=3
 · omega
 rw [if_neg c3] at h
 by_cases c4:k=6∨k=7
 · omega
 rw [if_neg c4] at h
 by_cases c5:8≤k∧k≤23
 · omega
 rw [if_neg c5] at h
 cases h
theorem Bl {t:Nd} (h:t.isPlace=true):t.isExpr=true:=by
 simp only [Nd.isPlace,Bool.and_eq_true] at h;exact h.2
theorem Hr {t:Nd} (h:t.isVar=true):t.isExpr=true:=by
 simp only [Nd.isVar,Bool.and_eq_true] at h;exact h.2
theorem Ly {t:Nd} (h:t.isStmt=true):40≤t.kind∧t.kind≤56:=by
 cases Dc h<;>simp only [Nd.kind]<;>omega
theorem Ev {t:Nd} (h:t.isBlock=true):t = .mk 57 0 [] t.kids∧DU t.kids=true:=by
 obtain ⟨k,n,s,l⟩:=t
 unfold Nd.isBlock at h
 simp only [Bool.and_eq_true,plain,beq_iff_eq,List.isEmpty_iff] at h;obtain ⟨⟨rfl,rfl,rfl⟩,h2⟩:=h
 exact ⟨rfl,h2⟩
theorem rowStmt_iff : ∀ {l:List Nd},DU l=true ↔ ∀x∈l,x.isStmt=true
 | []=>by simp [DU]
 | t::r=>by simp [DU,rowStmt_iff (l:=r)]
structure Tok where
 kind:Int
 text:List UInt8
 pos:Int
def Tok.zero:Tok:=⟨0,[],0⟩
structure PS where
 at_:Nat
 off:Int
 err:Int
section
variable (ts:List Tok) (n:Int)
def AN (σ:PS):Tok:=if σ.err≠0∨σ.at_=ts.length then Tok.zero else ts.getD σ.at_ Tok.zero
def CT (σ:PS) (off e:Int):PS:=if σ.err=0 then ⟨σ.at_,off,e⟩ else σ
def DA (σ:PS):PS:=if σ.at_<ts.length then CT σ (ts.getD σ.at_ Tok.zero).pos 3 else CT σ n 4
def AD (σ:PS):PS:=⟨σ.at_+1,σ.off,σ.err⟩
def Dh (σ:PS) (t:List UInt8):Bool:=decide ((AN ts σ).text=t)
def DJ (σ:PS) (t:List UInt8):PS:=if Dh ts σ t then AD σ else σ
def A1 (σ:PS) (t:List UInt8):PS:=if Dh ts σ t then AD σ else DA ts n σ
def BJ (σ:PS):List UInt8×PS:=if Cu (AN ts σ).text then ((AN ts σ).text,AD σ) else ([],DA ts n σ)
def B3 (s:List UInt8):Nat:=s.foldl (fun a c=>a*10+(c.toNat-48)) 0
def CF (least most:Int) (σ:PS):Int×PS:=
 if (AN ts σ).kind=2 then
  if (B3 (AN ts σ).text:Int)≤9223372036854775807∧least≤(B3 (AN ts σ).text:Int)∧(B3 (AN ts σ).text:Int)≤most then ((B3 (AN ts σ).text:Int),AD σ)
  else (0,CT (AD σ) (AN ts σ).pos 2)
 else (0,DA ts n σ)
def Lz (t:List UInt8):Option Int:=[8,9,10,11,12,13,14,15,16,17,18,19,20,21,22,23].find? (fun k=>decide (Fh k=t))
mutual
def Cl:Nat→Int→PS→Nd×PS
 | 0,_,σ=>(.mk 0 0 [] [],σ)
 | k+1,lv,σ=>Dd k lv (BL k σ).1 (BL k σ).2
def Dd:Nat→Int→Nd→PS→Nd×PS
 | 0,_,x,σ=>(x,σ)
 | k+1,lv,x,σ=>match Lz (AN ts σ).text with
  | none=>(x,σ)
  | some op=>if Dz op<lv then (x,σ) else
   Dd k lv (.mk op 0 [] [x,(Cl k (Dz op+1) (AD σ)).1]) (Cl k (Dz op+1) (AD σ)).2
def BL:Nat→PS→Nd×PS
 | 0,σ=>(.mk 0 0 [] [],σ)
 | k+1,σ=>
  if Dh ts σ [45] then (.mk 6 0 [] [(BL k (AD σ)).1],(BL k (AD σ)).2)
  else if Dh ts σ [33] then (.mk 7 0 [] [(BL k (AD σ)).1],(BL k (AD σ)).2)
  else BV k σ
def BV:Nat→PS→Nd×PS
 | 0,σ=>(.mk 0 0 [] [],σ)
 | k+1,σ=>
  if (AN ts σ).kind=2 then (.mk 1 (CF ts n 0 9223372036854775807 σ).1 [] [],(CF ts n 0 9223372036854775807 σ).2)
  else if Dh ts σ [116,111,112] then (.mk 4 0 (BJ ts n (A1 ts n (AD σ) [40])).1 [],A1 ts n (BJ ts n (A1 ts n (AD σ) [40])).2 [41])
  else if Dh ts σ [115,105,122,101] then (.mk 5 0 (BJ ts n (A1 ts n (AD σ) [40])).1 [],A1 ts n (BJ ts n (A1 ts n (AD σ) [40])).2 [41])
  else if Dh ts σ [40] then ((Cl k 1 (AD σ)).1,A1 ts n (Cl k 1 (AD σ)).2 [41])
  else Cq k σ
def Cq:Nat→PS→Nd×PS
 | 0,σ=>(.mk 0 0 [] [],σ)
 | k+1,σ=>
  if Dh ts (BJ ts n σ).2 [91] then (.mk 3 0 (BJ ts n σ).1 [(Cl k 1 (AD (BJ ts n σ).2)).1],A1 ts n (Cl k 1 (AD (BJ ts n σ).2)).2 [93])
  else (.mk 2 0 (BJ ts n σ).1 [],(BJ ts n σ).2)
end
def Eb (σ:PS):Nd×PS:=(.mk 2 0 (BJ ts n σ).1 [],(BJ ts n σ).2)
def DO:Nat→List Nd→PS→List Nd×PS
 | 0,acc,σ=>(acc,σ)
 | k+1,acc,σ=>
  if Dh ts σ [44] then
   DO k (acc++[(Eb ts n (if acc.length=8∧Cu (AN ts (AD σ)).text=true then CT (AD σ) (AN ts (AD σ)).pos 5 else AD σ)).1])
    (Eb ts n (if acc.length=8∧Cu (AN ts (AD σ)).text=true then CT (AD σ) (AN ts (AD σ)).pos 5 else AD σ)).2
  else (acc,σ)
def Ip (k:Nat) (kind:Int) (σ:PS):Nd×PS:=
 let m:=BJ ts n (AD σ)
 let σ1:=A1 ts n m.2 [40]
 if Dh ts σ1 [41] then (.mk kind 0 m.1 [],AD σ1)
 else
  let a:=Eb ts n σ1
  let r:=DO ts n k [a.1] a.2
  (.mk kind 0 m.1 r.1,A1 ts n r.2 [41])
def EY (t:List UInt8):Int:=if t=[43,61] then 40 else if t=[45,61] then 41 else if t=[94,61] then 42 else if t=[58,61] then 56 else 0
def FB (k:Nat) (σ:PS):Nd×PS:=
 let p:=Cq ts n k σ
 if Dh ts p.2 [60,61,62] then (.mk 43 0 [] [p.1,(Cq ts n k (AD p.2)).1],(Cq ts n k (AD p.2)).2)
 else if EY (AN ts p.2).text=0 then (.mk 0 0 [] [],DA ts n p.2)
 else (.mk (EY (AN ts p.2).text) 0 [] [p.1,(Cl ts n k 1 (AD p.2)).1],(Cl ts n k 1 (AD p.2)).2)
def GC (k:Nat) (kind:Int) (σ:PS):Nd×PS:=
 let p:=Cq ts n k (AD σ)
 let m:=BJ ts n (A1 ts n p.2 [44])
 (.mk kind 0 m.1 [p.1],m.2)
def He (k:Nat) (kind:Int) (σ:PS):Nd×PS:=(.mk kind 0 [] [(Cq ts n k (AD σ)).1],(Cq ts n k (AD σ)).2)
mutual
def Cx:Nat→PS→Nd×PS
 | 0,σ=>(.mk 0 0 [] [],σ)
 | k+1,σ=>
  if (AN ts σ).text=[112,117,115,104] then GC ts n k 44 σ else if (AN ts σ).text=[112,111,112] then GC ts n k 45 σ
  else if (AN ts σ).text=[114,101,97,100] then He ts n k 46 σ else if (AN ts σ).text=[117,110,114,101,97,100] then He ts n k 47 σ else if (AN ts σ).text=[119,114,105,116,101] then He ts n k 48 σ else if (AN ts σ).text=[117,110,119,114,105,116,101] then He ts n k 49 σ
  else if (AN ts σ).text=[99,97,108,108] then Ip ts n k 50 σ else if (AN ts σ).text=[117,110,99,97,108,108] then Ip ts n k 51 σ
  else if (AN ts σ).text=[105,102] then CH k 52 [101,108,115,101] [102,105] σ else if (AN ts σ).text=[102,114,111,109] then CH k 53 [108,111,111,112] [117,110,116,105,108] σ
  else if (AN ts σ).text=[108,111,99,97,108] then Fi k σ else FB ts n k σ
def CH:Nat→Int→List UInt8→List UInt8→PS→Nd×PS
 | 0,_,_,_,σ=>(.mk 0 0 [] [],σ)
 | k+1,kind,mid,last,σ=>
  let a:=Cl ts n k 1 (AD σ)
  let x:=Ej k a.2
  let y:=Ej k (A1 ts n x.2 mid)
  let e:=Cl ts n k 1 (A1 ts n y.2 last)
  (.mk kind 0 [] [a.1,x.1,y.1,e.1],e.2)
def Fi:Nat→PS→Nd×PS
 | 0,σ=>(.mk 0 0 [] [],σ)
 | k+1,σ=>
  if Dh ts (AD σ) [115,116,97,99,107] then
   let m:=BJ ts n (AD (AD σ))
   let x:=Ej k m.2
   (.mk 55 0 m.1 [x.1],x.2)
  else
   let m:=BJ ts n (AD σ)
   let a:=Cl ts n k 1 (A1 ts n m.2 [61])
   let x:=Ej k a.2
   let e:=Cl ts n k 1 (A1 ts n x.2 [100,101,108,111,99,97,108])
   (.mk 54 0 m.1 [a.1,x.1,e.1],e.2)
def Ej:Nat→PS→Nd×PS
 | 0,σ=>(.mk 57 0 [] [],σ)
 | k+1,σ=>let r:=Dp k [] (A1 ts n σ [123]);(.mk 57 0 [] r.1,r.2)
def Dp:Nat→List Nd→PS→List Nd×PS
 | 0,acc,σ=>(acc,σ)
 | k+1,acc,σ=>
  if σ.err≠0 then (acc,σ)
  else if Dh ts σ [125] then (acc,AD σ)
  else Dp k (acc++[(Cx k σ).1]) (A1 ts n (Cx k σ).2 [59])
end
end
mutual
def Nd.depth:Nd→Int
 | .mk _ _ _ l=>Bg l+1
def Bg:List Nd→Int
 | []=>0
 | t::r=>max t.depth (Bg r)
end
section
variable (ts:List Tok) (n:Int)
def DB (x:Nd) (off:Int) (σ:PS):PS:=if σ.err≠0 then σ else if 80<x.depth then CT σ off 19 else if 2000<x.size then CT σ off 5 else σ
def C0:Nat→List Nd→PS→List Nd×PS
 | 0,acc,σ=>(acc,σ)
 | k+1,acc,σ=>if σ.err=0∧σ.at_<ts.length then C0 k (acc++[(Cx ts n k σ).1]) (A1 ts n (Cx ts n k σ).2 [59]) else (acc,σ)
end
def EW:Nat→List UInt8→Nat→List Tok→List Tok×Option Nat
 | 0,_,_,acc=>(acc,none)
 | k+1,s,p,acc=>if p<s.length then
  if (Bf (s.drop p)).2=0 then ([],some p)
  else EW k s (p+(Bf (s.drop p)).2) (acc++[⟨((Bf (s.drop p)).1:Nat),(s.drop p).take (Bf (s.drop p)).2,(p:Int)⟩])
  else (acc,none)
def GD (s:List UInt8):List Tok×Int×Int:=
 if 65536<s.length then ([],0,5) else match EW (s.length+1) s 0 [] with
  | (l,none)=>(l,0,0)
  | (_,some p)=>([],(p:Int),3)
def DY (l:List Tok):List Tok:=l.filter fun t=>decide (t.kind≠4)&&decide (t.kind≠5)
def DQ (s:List UInt8):List Tok×PS:=(DY (GD s).1,⟨0,(GD s).2.1,(GD s).2.2⟩)
def GE (s:List UInt8):Nat:=4*s.length+20
def Ge:Nd:=.mk 0 0 [] []
def Ew (s:List UInt8):Nd×Int×Int:=
 let ts:=(DQ s).1
 let r:=C0 ts s.length (GE s) [] (DQ s).2
 let x:=Nd.mk 57 0 [] r.1
 let σ:=DB x 0 r.2
 if σ.err≠0 then (Ge,σ.off,σ.err) else (x,0,0)
def BN (k:Int):Int:=
 if k=40 then 41 else if k=41 then 40 else if k=44 then 45 else if k=45 then 44 else if k=46 then 47 else if k=47 then 46
 else if k=48 then 49 else if k=49 then 48 else if k=50 then 51 else if k=51 then 50 else k
def FT (l:List Nd):List Nd:=(l.set 0 (l.getD (l.length-1) (.mk 0 0 [] []))).set (l.length-1) (l.getD 0 (.mk 0 0 [] []))
mutual
def Nd.inv (q:Bool):Nd→Nd
 | .mk k n s l=>
  if k=57 then .mk k n s (BY q l).reverse
  else if k=52∨k=53∨k=54 then .mk k n s (FT (Dt q l))
  else if k=50∨k=51 then .mk (if q then k else BN k) n s (Dt q l)
  else .mk (BN k) n s (Dt q l)
def BY (q:Bool):List Nd→List Nd
 | []=>[]
 | t::r=>t.inv q::BY q r
def Dt (q:Bool):List Nd→List Nd
 | []=>[]
 | t::r=>(if t.kind=57 then t.inv q else t)::Dt q r
end
theorem J4 (q:Bool) : ∀l:List Nd,(BY q l).length=l.length
 | []=>rfl
 | t::r=>by simp only [BY,List.length_cons,J4 q r]
theorem J5 (q:Bool) : ∀l m:List Nd,BY q (l++m)=BY q l++BY q m
 | [],m=>rfl
 | t::r,m=>by simp only [BY,List.cons_append,J5 q r m]
theorem Hs (q:Bool) : ∀l:List Nd,BY q l.reverse=(BY q l).reverse
 | []=>rfl
 | t::r=>by simp only [BY,List.reverse_cons,J5,Hs q r]
theorem Do (q:Bool) {t:Nd} (h:t.isExpr=true):(if t.kind=57 then t.inv q else t)=t:=by
 have:=I3 h;rw [if_neg (by omega)]
theorem Gf (q:Bool) {t:Nd} (h:t.isBlock=true):(if t.kind=57 then t.inv q else t)=t.inv q:=by
 obtain ⟨e,-⟩:=Ev h
 rw [e];rfl
theorem LA (q:Bool) : ∀l:List Nd,l.all Nd.isVar=true→Dt q l=l
 | [],_=>rfl
 | t::r,h=>by
  simp only [List.all_cons,Bool.and_eq_true] at h;simp only [Dt,Do q (Hr h.1),LA q r h.2]
theorem Vb (x y z:Nd):FT [x,y,z]=[z,y,x]:=rfl
theorem Vc (x y z u:Nd):FT [x,y,z,u]=[u,y,z,x]:=rfl
section
variable (q:Bool)
theorem JL {k:Int} {x y:Nd} (hk:k=40∨k=41∨k=42∨k=56) (hx:x.isExpr=true) (hy:y.isExpr=true):(Nd.mk k 0 [] [x,y]).inv q = .mk (BN k) 0 [] [x,y]:=by
 conv=>lhs;unfold Nd.inv
 rw [if_neg (by omega),if_neg (by omega),if_neg (by omega)];simp only [Dt,Do q hx,Do q hy]
theorem Iq {x y:Nd} (hx:x.isExpr=true) (hy:y.isExpr=true):(Nd.mk 43 0 [] [x,y]).inv q = .mk 43 0 [] [x,y]:=by
 conv=>lhs;unfold Nd.inv
 rw [if_neg (by omega),if_neg (by omega),if_neg (by omega)]
 simp only [Dt,Do q hx,Do q hy];rfl
theorem FC {k:Int} {s:List UInt8} {x:Nd} (hk:44≤k∧k≤49) (hx:x.isExpr=true):(Nd.mk k 0 s [x]).inv q = .mk (BN k) 0 s [x]:=by
 conv=>lhs;unfold Nd.inv
 rw [if_neg (by omega),if_neg (by omega),if_neg (by omega)];simp only [Dt,Do q hx]
theorem Ir {k:Int} {s:List UInt8} {l:List Nd} (hk:k=50∨k=51) (hl:l.all Nd.isVar=true):(Nd.mk k 0 s l).inv q = .mk (if q then k else BN k) 0 s l:=by
 conv=>lhs;unfold Nd.inv
 rw [if_neg (by omega),if_neg (by omega),if_pos hk,LA q l hl]
theorem Gg {k:Int} {x y z u:Nd} (hk:k=52∨k=53) (hx:x.isExpr=true) (hy:y.isBlock=true) (hz:z.isBlock=true) (hu:u.isExpr=true):(Nd.mk k 0 [] [x,y,z,u]).inv q = .mk k 0 [] [u,y.inv q,z.inv q,x]:=by
 conv=>lhs;unfold Nd.inv
 rw [if_neg (by omega),if_pos (by omega)];simp only [Dt,Do q hx,Do q hu,Gf q hy,Gf q hz,Vc]
theorem GY {s:List UInt8} {x y z:Nd} (hx:x.isExpr=true) (hy:y.isBlock=true) (hz:z.isExpr=true):(Nd.mk 54 0 s [x,y,z]).inv q = .mk 54 0 s [z,y.inv q,x]:=by
 conv=>lhs;unfold Nd.inv
 rw [if_neg (by omega),if_pos (by omega)];simp only [Dt,Do q hx,Do q hz,Gf q hy,Vb]
theorem Gh {s:List UInt8} {x:Nd} (hx:x.isBlock=true):(Nd.mk 55 0 s [x]).inv q = .mk 55 0 s [x.inv q]:=by
 conv=>lhs;unfold Nd.inv
 rw [if_neg (by omega),if_neg (by omega),if_neg (by omega)]
 simp only [Dt,Gf q hx];rfl
theorem D1 (l:List Nd):(Nd.mk 57 0 [] l).inv q = .mk 57 0 [] (BY q l).reverse:=by
 conv=>lhs;unfold Nd.inv
 rw [if_pos rfl]
end
theorem Ex {k:Int}:BN (BN k)=k:=by
 unfold BN
 by_cases h1:k=40;· subst h1;rfl
 by_cases h2:k=41;· subst h2;rfl
 by_cases h3:k=44;· subst h3;rfl
 by_cases h4:k=45;· subst h4;rfl
 by_cases h5:k=46;· subst h5;rfl
 by_cases h6:k=47;· subst h6;rfl
 by_cases h7:k=48;· subst h7;rfl
 by_cases h8:k=49;· subst h8;rfl
 by_cases h9:k=50;· subst h9;rfl
 by_cases h10:k=51;· subst h10;rfl
 simp only [h1,h2,h3,h4,h5,h6,h7,h8,h9,h10,if_false]
theorem J6 {k:Int} (h:k=40∨k=41∨k=42∨k=56):BN k=40∨BN k=41∨BN k=42∨BN k=56:=by rcases h with rfl|rfl|rfl|rfl<;>decide
theorem LB {k:Int} (h:k=50∨k=51):BN k=50∨BN k=51:=by rcases h with rfl|rfl<;>decide
theorem Ht {k:Int} (h:k=44∨k=45):BN k=44∨BN k=45:=by rcases h with rfl|rfl<;>decide
theorem I4 {k:Int} (h:k=46∨k=47∨k=48∨k=49):BN k=46∨BN k=47∨BN k=48∨BN k=49:=by rcases h with rfl|rfl|rfl|rfl<;>decide
structure InvOk (q:Bool) (t:Nd):Prop where
 st:t.isStmt=true→(t.inv q).isStmt=true
 bl:t.isBlock=true→(t.inv q).isBlock=true
 back:(t.inv q).inv q=t
 size:(t.inv q).size=t.size
 depth:(t.inv q).depth=t.depth
 wf:t.wf→(t.inv q).wf
theorem Jk : ∀l m:List Nd,Au (l++m)=Au l+Au m
 | [],m=>by simp [Au]
 | t::r,m=>by simp only [Au,List.cons_append,Jk r m];omega
theorem Jl : ∀l:List Nd,Au l.reverse=Au l
 | []=>rfl
 | t::r=>by simp only [List.reverse_cons,Jk,Jl r,Au];omega
theorem Gi : ∀l:List Nd,0≤Bg l
 | []=>by simp [Bg]
 | t::r=>by have:=Gi r;simp only [Bg];omega
theorem Is : ∀l m:List Nd,Bg (l++m)=max (Bg l) (Bg m)
 | [],m=>by have:=Gi m;simp only [Bg,List.nil_append];omega
 | t::r,m=>by simp only [Bg,List.cons_append,Is r m];omega
theorem It : ∀l:List Nd,Bg l.reverse=Bg l
 | []=>rfl
 | t::r=>by have:=Gi r;simp only [List.reverse_cons,Is,It r,Bg];omega
theorem rowWf_iff : ∀ {l:List Nd},C6 l ↔ ∀x∈l,x.wf
 | []=>by simp [C6]
 | t::r=>by simp [C6,rowWf_iff (l:=r)]
theorem EZ : ∀ {l:List Nd} {x:Nd},x∈l→x.size≤Au l
 | t::r,x,h=>by
  simp only [Au]
  rcases List.mem_cons.1 h with rfl|h
  · omega
  · have:=EZ h;omega
theorem R4 (q:Bool) : ∀l:List Nd,(∀t∈l,InvOk q t)→(∀t∈l,t.isStmt=true)→(∀x∈BY q l,x.isStmt=true)∧BY q (BY q l)=l∧Au (BY q l)=Au l∧Bg (BY q l)=Bg l∧(C6 l→C6 (BY q l))
 | [],_,_=>⟨by simp [BY],rfl,rfl,rfl,fun h=>h⟩
 | t::r,h,hs=>by
  have ht:=h t (by simp);obtain ⟨i1,i2,i3,i4,i5⟩:=R4 q r (fun x hx=>h x (by simp [hx])) (fun x hx=>hs x (by simp [hx]));refine ⟨fun x hx=>?_,?_,?_,?_,fun hw=>?_⟩
  · simp only [BY,List.mem_cons] at hx
    rcases hx with rfl|hx
    · exact ht.st (hs t (by simp))
    · exact i1 x hx
  · simp only [BY,ht.back,i2]
  · simp only [BY,Au,ht.size,i3]
  · simp only [BY,Bg,ht.depth,i4]
  · simp only [BY,C6] at hw ⊢
    exact ⟨ht.wf hw.1,i5 hw.2⟩
theorem Hu {k:Int} (h0:0≤k) (h1:k≤255):0≤BN k∧BN k≤255:=by
 unfold BN
 repeat' split
 all_goals omega
theorem OA (q:Bool) (N:Nat) : ∀t:Nd,t.size<N→t.isStmt=true∨t.isBlock=true→InvOk q t:=by
 induction N with
 | zero=>intro t h;omega
 | succ N ih=>
  intro t hN h
  by_cases hs:t.isStmt=true
  · have hnb : ∀ {u:Nd},u.isStmt=true → ¬u.isBlock=true:=fun {u} hu hb=>by
     have h1:=Ly hu;obtain ⟨e,-⟩:=Ev hb
     rw [e] at h1;simp only [Nd.kind] at h1;omega
    have mk : ∀u v:Nd,u.isStmt=true→u.inv q=v→v.isStmt=true→v.inv q=u→v.size=u.size→v.depth=u.depth→(u.wf→v.wf)→InvOk q u:=fun u v hu e h1 h2 h3 h4 h5=>⟨fun _=>by rw [e];exact h1,fun hb=>absurd hb (hnb hu),by rw [e,h2],by rw [e,h3],by rw [e,h4],by rw [e];exact h5⟩
    cases Dc hs with
    | @upd k x y hk hx hy=>
     have ex:=Bl hx;refine mk _ _ hs (JL q hk ex hy) (DX (.upd (J6 hk) hx hy)) (by rw [JL q (J6 hk) ex hy,Ex]) rfl rfl (fun hw=>?_);have:=Hu hw.1 hw.2.1
     exact ⟨this.1,this.2,hw.2.2⟩
    | @swap x y hx hy=>
     exact mk _ _ hs (Iq q (Bl hx) (Bl hy)) hs (Iq q (Bl hx) (Bl hy)) rfl rfl (fun hw=>hw)
    | @stack k s x hk hn hx=>
     have ex:=Bl hx;refine mk _ _ hs (FC q (by omega) ex) (DX (.stack (Ht hk) hn hx)) (by rw [FC q (by have:=Ht hk;omega) ex,Ex]) rfl rfl (fun hw=>?_);have:=Hu hw.1 hw.2.1
     exact ⟨this.1,this.2,hw.2.2⟩
    | @tape k x hk hx=>
     have ex:=Bl hx;refine mk _ _ hs (FC q (by omega) ex) (DX (.tape (I4 hk) hx)) (by rw [FC q (by have:=I4 hk;omega) ex,Ex]) rfl rfl (fun hw=>?_);have:=Hu hw.1 hw.2.1
     exact ⟨this.1,this.2,hw.2.2⟩
    | @call k s l hk hn hl ha=>
     have a:(if q then k else BN k)=50∨(if q then k else BN k)=51:=by
      cases q
      · exact LB hk
      · exact hk
     refine mk _ _ hs (Ir q hk ha) (DX (.call a hn hl ha)) ?_ rfl rfl (fun hw=>?_)
     · rw [Ir q a ha]
       cases q
       · simp only [Bool.false_eq_true,if_false,Ex]
       · simp
     · exact ⟨by omega,by omega,hw.2.2⟩
    | @branch k x y z u hk hx hy hz hu=>
     simp only [Nd.size,Au] at hN;have iy:=ih y (by omega) (Or.inr hy);have iz:=ih z (by omega) (Or.inr hz);refine mk _ _ hs (Gg q hk hx hy hz hu) (DX (.branch hk hu (iy.bl hy) (iz.bl hz) hx)) (by rw [Gg q hk hu (iy.bl hy) (iz.bl hz) hx,iy.back,iz.back]) ?_ ?_ (fun hw=>?_)
     · simp only [Nd.size,Au,iy.size,iz.size];omega
     · simp only [Nd.depth,Bg,iy.depth,iz.depth];omega
     · obtain ⟨w1,w2,w3,w4,w5,w6,w7⟩:=hw
       exact ⟨w1,w2,w3,w4,w5,w6,w7.2.2.2.1,iy.wf w7.2.1,iz.wf w7.2.2.1,w7.1,trivial⟩
    | @local_ s x y z hn hx hy hz=>
     simp only [Nd.size,Au] at hN;have iy:=ih y (by omega) (Or.inr hy);refine mk _ _ hs (GY q hx hy hz) (DX (.local_ hn hz (iy.bl hy) hx)) (by rw [GY q hz (iy.bl hy) hx,iy.back]) ?_ ?_ (fun hw=>?_)
     · simp only [Nd.size,Au,iy.size];omega
     · simp only [Nd.depth,Bg,iy.depth];omega
     · obtain ⟨w1,w2,w3,w4,w5,w6,w7⟩:=hw
       exact ⟨w1,w2,w3,w4,w5,w6,w7.2.2.1,iy.wf w7.2.1,w7.1,trivial⟩
    | @lstack s x hn hx=>
     simp only [Nd.size,Au] at hN;have ix:=ih x (by omega) (Or.inr hx);refine mk _ _ hs (Gh q hx) (DX (.lstack hn (ix.bl hx))) (by rw [Gh q (ix.bl hx),ix.back]) ?_ ?_ (fun hw=>?_)
     · simp only [Nd.size,Au,ix.size]
     · simp only [Nd.depth,Bg,ix.depth]
     · obtain ⟨w1,w2,w3,w4,w5,w6,w7⟩:=hw
       exact ⟨w1,w2,w3,w4,w5,w6,ix.wf w7.1,trivial⟩
  · have hb:t.isBlock=true:=h.resolve_left hs
    obtain ⟨e,hr⟩:=Ev hb;obtain ⟨k,n,s,l⟩:=t;simp only [Nd.kids,Nd.mk.injEq,and_true] at e;obtain ⟨rfl,rfl,rfl⟩:=e;simp only [Nd.kids] at hr;simp only [Nd.size] at hN;have hst:=rowStmt_iff.1 hr;obtain ⟨i1,i2,i3,i4,i5⟩:=R4 q l (fun t ht=>ih t (by have:=EZ ht;omega) (Or.inl (hst t ht))) hst;refine ⟨fun h=>absurd h hs,fun _=>?_,?_,?_,?_,fun hw=>?_⟩
    · rw [D1]
      unfold Nd.isBlock
      rw [rowStmt_iff.2 (fun x hx=>i1 x (List.mem_reverse.1 hx))];rfl
    · rw [D1,D1,Hs,List.reverse_reverse,i2]
    · rw [D1];simp only [Nd.size,Jl,i3]
    · rw [D1];simp only [Nd.depth,It,i4]
    · rw [D1]
      obtain ⟨w1,w2,w3,w4,w5,w6,w7⟩:=hw
      exact ⟨w1,w2,w3,w4,w5,by rw [List.length_reverse,J4];exact w6,rowWf_iff.2 (fun x hx=>rowWf_iff.1 (i5 w7) x (List.mem_reverse.1 hx))⟩
mutual
def Nd.calls:Nd→Nd
 | .mk k n s l=>.mk (if k=50∨k=51 then BN k else k) n s (M1 l)
def M1:List Nd→List Nd
 | []=>[]
 | t::r=>t.calls::M1 r
end
def Bd (at_:List UInt8→Option (List Int)):Nd→Int×Int
 | .mk k n s l=>
  if k=1 then (n,0)
  else if k=2 then match at_ s with
   | none=>(0,6)
   | some c=>if c.length=1 then (c.getD 0 0,0) else (0,7)
  else if k=3 then match at_ s with
   | none=>(0,6)
   | some c=>match l with
    | [x]=>if (Bd at_ x).2≠0 then (0,(Bd at_ x).2) else if (Bd at_ x).1<0∨(c.length:Int)≤(Bd at_ x).1 then (0,12) else (c.getD (Bd at_ x).1.toNat 0,0)
    | _=>(0,0)
  else if k=4 then match at_ s with
   | none=>(0,6)
   | some c=>if c.length=0 then (0,13) else (c.getD (c.length-1) 0,0)
  else if k=5 then match at_ s with
   | none=>(0,6)
   | some c=>(c.length,0)
  else match l with
   | [x]=>if (Bd at_ x).2≠0 then (0,(Bd at_ x).2) else Gd k (Bd at_ x).1
   | [x,y]=>if (Bd at_ x).2≠0 then (0,(Bd at_ x).2) else if (Bd at_ y).2≠0 then (0,(Bd at_ y).2) else Gc k (Bd at_ x).1 (Bd at_ y).1
   | _=>(0,0)
def BA (at_:List UInt8→Option (List Int)) (t:Nd):Int×Int:=
 if t.kind=2 then (0,0) else match t.kids with
 | x::_=>Bd at_ x
 | []=>(0,0)
def CJ (s:List UInt8):List VD→Option Nat
 | []=>none
 | v::r=>match CJ s r with
  | some i=>some (i+1)
  | none=>if v.name=s then some 0 else none
structure Frm where
 vars:List VD
 cells:List Nat
 locals:Nat
structure Stp where
 heap:List (List Int)
 base:Frm
 calls:List Frm
 tin:List Int
 tout:List Int
def Stp.cur (st:Stp):Frm:=st.calls.getLast?.getD st.base
def Stp.setCur (st:Stp) (f:Frm):Stp:=if st.calls=[] then { st with base:=f } else { st with calls:=st.calls.dropLast++[f] }
def Stp.items (st:Stp) (c:Nat):List Int:=st.heap.getD c []
def Frm.cell (f:Frm) (s:List UInt8):Option Nat:=(CJ s f.vars).bind (f.cells[·]?)
def Stp.cellD (st:Stp) (s:List UInt8):Nat:=(st.cur.cell s).getD 0
def Stp.look (st:Stp) (s:List UInt8):Option (List Int):=(st.cur.cell s).map st.items
def Stp.all (st:Stp) (c:Nat) (xs:List Int):Stp:={ st with heap:=st.heap.set c xs }
def Stp.put (st:Stp) (c i:Nat) (v:Int):Stp:=st.all c ((st.items c).set i v)
def C2 (k:Int):Int:=if k=2 then 1 else if k=3 then 2 else if k=4∨k=5∨k=44∨k=45 then 3 else 0
mutual
def Nd.bad (v:List VD):Nd→Int
 | .mk k _ s l=>if C2 k≠0∧Ff v s (C2 k)≠0 then Ff v s (C2 k) else EU v l
def EU (v:List VD):List Nd→Int
 | []=>0
 | t::r=>if t.bad v≠0 then t.bad v else EU v r
end
def TK (k x y:Int):Int:=if k=40 then MQ (x+y) else if k=41 then MQ (x-y) else Oz .xor x y
def Stp.transfer (st:Stp) (k:Int) (c i:Nat):Int×Stp:=
 if k=46 then match st.tin with
  | []=>(17,st)
  | v::r=>if (st.items c).getD i 0≠0 then (14,st) else (0,{ st.put c i v with tin:=r })
 else if k=47 then if 4096≤st.tin.length then (5,st) else (0,{ st.put c i 0 with tin:=(st.items c).getD i 0::st.tin })
 else if k=48 then if 4096≤st.tout.length then (5,st) else (0,{ st.put c i 0 with tout:=st.tout++[(st.items c).getD i 0] })
 else match st.tout.getLast? with
  | none=>(17,st)
  | some v=>if (st.items c).getD i 0≠0 then (14,st) else (0,{ st.put c i v with tout:=st.tout.dropLast })
def Stp.move (st:Stp) (k:Int) (c i d:Nat):Int×Stp:=
 if k=44 then if 1000≤(st.items d).length then (5,st) else (0,(st.all d (st.items d++[(st.items c).getD i 0])).put c i 0)
 else match (st.items d).getLast? with
  | none=>(13,st)
  | some v=>if (st.items c).getD i 0≠0 then (14,st) else (0,(st.put c i v).all d (st.items d).dropLast)
def Stp.exec (st:Stp) (k:Int) (s:List UInt8) (l:List Nd):Int×Stp:=
 let x:=l.getD 0 (.mk 0 0 [] [])
 let y:=l.getD 1 (.mk 0 0 [] [])
 let a:=BA st.look x
 let r:=if k=43 then BA st.look y else if 40≤k∧k≤42 then Bd st.look y else (0,0)
 let c:=st.cellD x.name
 if a.2≠0 then (a.2,st) else if r.2≠0 then (r.2,st) else if a.1<0∨((st.items c).length:Int)≤a.1 then (12,st)
 else if 40≤k∧k≤42 then (0,st.put c a.1.toNat (TK k ((st.items c).getD a.1.toNat 0) r.1))
 else if k=43 then
  if r.1<0∨((st.items (st.cellD y.name)).length:Int)≤r.1 then (12,st)
  else (0,(st.put c a.1.toNat ((st.items (st.cellD y.name)).getD r.1.toNat 0)).put (st.cellD y.name) r.1.toNat ((st.items c).getD a.1.toNat 0))
 else if k=44∨k=45 then st.move k c a.1.toNat (st.cellD s)
 else st.transfer k c a.1.toNat
def Stp.run1 (st:Stp) (k n:Int) (s:List UInt8) (l:List Nd):Int×Stp:=
 if k=56 then (9,st) else if (Nd.mk k n s l).bad st.cur.vars≠0 then ((Nd.mk k n s l).bad st.cur.vars,st) else st.exec k s l
def Stp.opens (st:Stp) (v:VD) (x:Int):Int×Stp:=
 if (CJ v.name st.cur.vars).isSome then (22,st)
 else (0,{ st.setCur ⟨st.cur.vars++[v],st.cur.cells++[st.heap.length],st.cur.locals+1⟩ with heap:=st.heap++[if v.kind=1 then [x] else []] })
def Stp.closes (st:Stp) (s:List UInt8) (x:Int):Int×Stp:=
 let f:=st.cur
 let v:=f.vars.getD (f.vars.length-1) ⟨[],0,0⟩
 let xs:=st.items (f.cells.getD (f.vars.length-1) 0)
 if f.locals=0∨v.name≠s then (6,st)
 else if v.kind=1∧xs.getD 0 0≠x∨v.kind=3∧0<xs.length then (16,st)
 else (0,st.setCur ⟨f.vars.dropLast,f.cells.dropLast,f.locals-1⟩)
def DP (f:Frm):List VD→List (List UInt8)→Int×List Nat
 | [],_=>(0,[])
 | _::_,[]=>(0,[])
 | v::r,s::q=>match CJ s f.vars with
  | none=>(6,[])
  | some i=>if (f.vars.getD i ⟨[],0,0⟩).kind≠v.kind∨(f.vars.getD i ⟨[],0,0⟩).len≠v.len then (7,[])
   else ((DP f r q).1,f.cells.getD i 0::(DP f r q).2)
def Stp.enters (st:Stp) (ps:List VD) (args:List (List UInt8)):Int×Stp:=
 if ps.length≠args.length then (7,st)
 else if (DP st.cur ps args).1≠0 then ((DP st.cur ps args).1,st)
 else if 100≤st.calls.length then (19,st)
 else (0,{ st with calls:=st.calls++[⟨ps,(DP st.cur ps args).2,0⟩] })
def Stp.leaves (st:Stp):Int×Stp:=if st.calls=[]∨0<st.cur.locals then (20,st) else (0,{ st with calls:=st.calls.dropLast })
structure Rn where
 st:Stp
 rem:Nat
def Bu (r:Rn):Except Int Rn:=if r.rem=0 then .error 18 else .ok ⟨r.st,r.rem-1⟩
def C9 (f:Stp→Int×Stp) (r:Rn):Except Int Rn:=if (f r.st).1≠0 then .error (f r.st).1 else .ok ⟨(f r.st).2,r.rem⟩
def Cc (t:Nd) (r:Rn):Except Int Int:=if (Bd r.st.look t).2≠0 then .error (Bd r.st.look t).2 else .ok (Bd r.st.look t).1
def B8 (t:Nd) (r:Rn):Except Int (Bool×Rn):=(Bu r).bind fun r=>(Cc t r).bind fun v=>.ok (decide (v≠0),r)
def BK (t:Nd) (want:Bool) (r:Rn):Except Int Rn:=(B8 t r).bind fun p=>if p.1≠want then .error 15 else .ok p.2
def FU (f:Nd→Rn→Except Int Rn):List Nd→Rn→Except Int Rn
 | [],r=>.ok r
 | t::l,r=>(f t r).bind (FU f l)
def C3 (b1 b2:Rn→Except Int Rn) (test entry:Nd):Nat→Rn→Except Int Rn
 | 0,_=>.error (-1)
 | m+1,r=>(b1 r).bind fun r=>(B8 test r).bind fun p=>if p.1 then .ok p.2 else (b2 p.2).bind fun r=>(BK entry false r).bind (C3 b1 b2 test entry m)
def AT (f:Bool→Nd→Rn→Except Int Rn) (back:Bool) (t:Nd) (r:Rn):Except Int Rn:=FU (f back) (if back then t.kids.reverse else t.kids) r
def BW (l:List Nd) (i:Nat):Nd:=l.getD i (.mk 0 0 [] [])
def AF (ps:List PD):Nat→Bool→Nd→Rn→Except Int Rn
 | 0,_,_,_=>.error (-1)
 | d+1,back,.mk k n s l,r=>
  let first:=if back then BW l (l.length-1) else BW l 0
  let last:=if back then BW l 0 else BW l (l.length-1)
  let blk:=AT (AF ps d)
  if k=52 then (B8 first r).bind fun p=>(blk back (if p.1 then BW l 1 else BW l 2) p.2).bind (BK last p.1)
  else if k=53 then (BK first true r).bind (C3 (blk back (BW l 1)) (blk back (BW l 2)) last first d)
  else if k=54 then (Bu r).bind fun r=>(Cc first r).bind fun v=>(C9 (·.opens ⟨s,1,0⟩ v) r).bind fun r=>(blk back (BW l 1) r).bind fun r=>
   (Bu r).bind fun r=>(Cc last r).bind fun v=>C9 (·.closes s v) r
  else if k=55 then (Bu r).bind fun r=>(C9 (·.opens ⟨s,3,0⟩ 0) r).bind fun r=>(blk back (BW l 0) r).bind fun r=>(Bu r).bind (C9 (·.closes s 0))
  else if k=50∨k=51 then
   let p:=ps.getD ((B9 ps s).getD 0) ⟨[],[],.mk 0 0 [] []⟩
   (Bu r).bind fun r=>(C9 (·.enters p.params (l.map Nd.name)) r).bind fun r=>(blk (back != decide (k=51)) p.body r).bind fun r=>(Bu r).bind (C9 (·.leaves))
  else (Bu r).bind (C9 (·.run1 (if back then BN k else k) n s l))
structure Shape (α:Type) where
 sz:Nat
 rep:World→(Nat→Prop)→α→List Value→Prop
 len : ∀ {w S x cs},rep w S x cs→cs.length=sz
 one : ∀ {w S x cs},rep w S x cs→cs.all Value.one=true
 mono : ∀ {w w':World} {S S' x cs},rep w S x cs→(∀b,S b→S' b)→(∀b o v,S b→w.cell? ⟨b,o,none⟩=some v→w'.cell? ⟨b,o,none⟩=some v)→rep w' S' x cs
 lt : ∀ {w S x cs},rep w S x cs→rep w (fun b=>S b∧b<w.heap.size) x cs
structure OwnL {α:Type} (sh:Shape α) (w:World) (B:Nat) (e:TypeId) (v:Value) (xs:List α):Prop where
 ex : ∃css:List (List Value),Own w B e sh.sz v xs.length css.flatten∧css.length=xs.length ∧ ∀(i:Nat) (x:α) (cs:List Value),xs[i]? = some x→css[i]? = some cs→sh.rep w (fun b=>B≤b∧v.ownBlock≠some b) x cs
theorem OwnL.nil {α:Type} {sh:Shape α} {w:World} {B e:Nat}:OwnL sh w B e (.slice none 0 0) []:=⟨⟨[],Own.nil,rfl,by simp⟩⟩
theorem Own.ge {w:World} {b e sz n:Nat} {v:Value} {cs:List Value} (h:Own w b e sz v n cs) {k:Nat} (hk:v.ownBlock=some k):b≤k:=(h.blk hk).1
theorem OwnL.ge {α:Type} {sh:Shape α} {w:World} {B e:Nat} {v:Value} {xs:List α} (h:OwnL sh w B e v xs) {k:Nat} (hk:v.ownBlock=some k):B≤k:=by
 obtain ⟨css,h1,-⟩:=h.ex
 exact h1.ge hk
theorem OwnL.ext {α:Type} {sh:Shape α} {w w':World} {B e:Nat} {v:Value} {xs:List α} (h:OwnL sh w B e v xs) (x:Ext w w'):OwnL sh w' B e v xs:=by
 obtain ⟨css,h1,h2,h3⟩:=h.ex
 exact ⟨css,h1.ext x,h2,fun i y cs hy hc=>sh.mono (h3 i y cs hy hc) (fun _ h=>h) (fun b o u _ hu=>x.keep hu)⟩
instance {α:Type} {sh:Shape α} {w w':World} {B e:Nat} {v:Value} {xs:List α}:LfE w w' (OwnL sh w B e v xs) (OwnL sh w' B e v xs):=⟨fun x h=>Bk.OwnL.ext h x⟩
theorem OwnL.fr {α:Type} {sh:Shape α} {S:Nat→Prop} {w w':World} {B e:Nat} {v:Value} {xs:List α} (h:OwnL sh w B e v xs) (x:Fr S w w') (hs : ∀k,S k→k<B):OwnL sh w' B e v xs:=by
 obtain ⟨css,h1,h2,h3⟩:=h.ex
 exact ⟨css,h1.fr x (fun k hk hS=>by have:=h1.ge hk;have:=hs k hS;omega),h2,fun i y cs hy hc=>sh.mono (h3 i y cs hy hc) (fun _ h=>h) (fun b o u hb hu=>x.keep (fun hS=>by have:=hs b hS;omega) hu)⟩
instance {α:Type} {sh:Shape α} {S:Nat→Prop} {w w':World} {B e:Nat} {v:Value} {xs:List α}:LfF S w w' (OwnL sh w B e v xs) (∀k,S k→k<B) (OwnL sh w' B e v xs):=⟨fun x s h=>Bk.OwnL.fr h x s⟩
theorem Fj {α:Type} {css:List (List α)} {n:Nat} (h : ∀cs∈css,cs.length=n):css.flatten.length=css.length*n:=by
 induction css with
 | nil=>simp
 | cons c r ih=>
  simp only [List.flatten_cons,List.length_append,List.length_cons,ih (fun x hx=>h x (List.mem_cons_of_mem _ hx)),h c List.mem_cons_self,Nat.add_mul]
  omega
def VS {α:Type} (sh:Shape α) (w:World) (B:Nat) (e:TypeId) (xs:List α):Option Value→World→Prop
 | some v',w'=> ∃g cap,v' = .slice (some ⟨g,0,none⟩) xs.length cap∧OwnL sh w' B e v' xs∧Fr (B ≤ ·) w w'
 | none,_=>False
section
variable {P:Program} {n:Nat} {l:Sl} {w:World} {tab:Tab} {zt:EL} {ty:TypeId} {α:Type} {sh:Shape α}
theorem Iu {x y:Operand} {t e sz1 B cap:Nat} {sE:Sk} {zs:List Value} {v:Value} {xs:List α} {cs:List Value} {z:α} {p:Addr} (T:TabOk P tab) (Z:CO P zt) (ht:AL tab t=some (.slice e,sz1)) (hE:AL tab e=some (sE,sh.sz)) (hz:Dx zt e=some zs) (hzl:zs.length=sh.sz)
 (hby:DT P e=true) (hsz:Nat.blt 0 sh.sz=true) (hx:ev l x=some v) (hy:ev l y=some (.slice (some p) 1 cap)) (hown:OwnL sh w B e v xs) (hr:Row w p cs) (hrep:sh.rep w (fun b=>B≤b∧v.ownBlock≠some b) z cs) (hlen:xs.length≤10000000000) (hB:B≤w.heap.size) :
 Cj P n l (.call ⟨.builtin .append,#[x,y],#[t,t]⟩) ty w (VS sh w B e (xs++[z])):=by
 obtain ⟨css,h1,h2,h3⟩:=hown.ex;have hd:=Fz (P:=P) (n:=n) (l:=l) (ty:=ty) T Z ht hE hz hzl hby hsz hx hy h1 hr (by rw [sh.len hrep];simp) (sh.one hrep) (by omega) (by omega) hB
 unfold Cj at hd ⊢
 intro a dst pos after g next Q ha hn c;refine hd a dst pos after g next Q ha (fun v' w' hG=>?_) (fun w' hG=>hG.elim);obtain ⟨g1,g2,g,cap',g3,g4⟩:=hG;have hgB:B≤g:=g1.ge (k:=g) (by rw [g3];rfl);refine hn v' w' ⟨g,cap',by rw [g3];simp,⟨css++[cs],?_,by simp [h2],fun i y ds hy hc=>?_⟩,g2.weaken (fun b hb=>h1.ge hb)⟩
 · have e1:(css++[cs]).flatten=css.flatten++cs:=by simp
   have e2:(xs++[z]).length=xs.length+1:=by simp
   rw [e1,e2];exact g1
 · have key:sh.rep w (fun b=>B≤b∧v.ownBlock≠some b) y ds:=by
    by_cases hi:i<xs.length
    · rw [List.getElem?_append_left hi] at hy
      rw [List.getElem?_append_left (by omega)] at hc
      exact h3 i y ds hy hc
    · have hil:i<(xs++[z]).length:=by
       rcases Nat.lt_or_ge i (xs++[z]).length with h|h
       · exact h
       · rw [List.getElem?_eq_none h] at hy;cases hy
      simp only [List.length_append,List.length_cons,List.length_nil] at hil
      have hi':i=xs.length:=by omega
      subst hi';rw [List.getElem?_append_right (Nat.le_refl _)] at hy;rw [List.getElem?_append_right (by omega)] at hc;simp only [Nat.sub_self,List.getElem?_cons_zero,Option.some.injEq] at hy;rw [h2] at hc;simp only [Nat.sub_self,List.getElem?_cons_zero,Option.some.injEq] at hc;subst hy hc
      exact hrep
   refine sh.mono (sh.lt key) (fun b hb=>⟨hb.1.1,fun e=>?_⟩) (fun b o u hb hu=>g2.keep hb.1.2 hu);rw [g3] at e;simp only [Value.ownBlock,Option.some.injEq] at e;subst e
   rcases g4 with h|h
   · exact hb.1.2 h
   · omega
theorem CQ {ops:Array Oper} {Q:Exit→Act→World→Prop} {rest:List Oper} {d:Nat} {pos:String} {after:Array Edge} {x y:Operand} {t e sz1 B cap:Nat} {sE:Sk} {zs:List Value} {v:Value} {xs:List α} {cs:List Value} {z:α} {p:Addr} (T:TabOk P tab) (Z:CO P zt) (ht:AL tab t=some (.slice e,sz1)) (hE:AL tab e=some (sE,sh.sz)) (hz:Dx zt e=some zs) (hzl:zs.length=sh.sz)
 (hby:DT P e=true) (hsz:Nat.blt 0 sh.sz=true) (hx:ev l x=some v) (hy:ev l y=some (.slice (some p) 1 cap)) (hown:OwnL sh w B e v xs) (hr:Row w p cs) (hrep:sh.rep w (fun b=>B≤b∧v.ownBlock≠some b) z cs) (hlen:xs.length≤10000000000) (hB:B≤w.heap.size) (hd:Nat.blt d n=true)
 (k : ∀g cap' w1,OwnL sh w1 B e (.slice (some ⟨g,0,none⟩) (xs++[z]).length cap') (xs++[z])→Fr (B ≤ ·) w w1→LW P n ops Q rest ((d,.slice (some ⟨g,0,none⟩) (xs++[z]).length cap')::l) w1) :
 LW P n ops Q (⟨some d,.call ⟨.builtin .append,#[x,y],#[t,t]⟩,ty,pos,after,none⟩::rest) l w:=
 AQ (Iu T Z ht hE hz hzl hby hsz hx hy hown hr hrep hlen hB) hd (fun v w1 ⟨g,cap,h,ho,hf⟩=>by subst h;exact k g cap w1 ho hf) (fun _ h=>h)
end
section
variable {P:Program} {n:Nat} {l:Sl} {S:World→Prop} {w:World} {tab:Tab} {zt:EL} {ty:TypeId} {ops:Array Oper} {Q:Exit→Act→World→Prop} {rest:List Oper} {d:Nat} {pos:String} {after:Array Edge}
end
theorem OwnL.rows {α:Type} {sh:Shape α} {w:World} {B e:Nat} {v:Value} {xs:List α} (h:OwnL sh w B e v xs) (hx:xs≠[]) : ∃g cap,v = .slice (some ⟨g,0,none⟩) xs.length cap∧B≤g ∧ ∀(i:Nat) (x:α),xs[i]? = some x → ∃cs,Row w ⟨g,i*sh.sz,none⟩ cs∧sh.rep w (fun b=>B≤b∧b≠g) x cs:=by
 obtain ⟨css,h1,h2,h3⟩:=h.ex
 rcases h1.row with ⟨rfl,hn,-⟩|⟨g,cap,rfl,hg,hob,hr⟩
 · exact absurd (List.length_eq_zero_iff.1 hn) hx
 · refine ⟨g,cap,rfl,hg,fun i x hi=>?_⟩
   have hlt:i<xs.length:=by
    rcases Nat.lt_or_ge i xs.length with h|h
    · exact h
    · rw [List.getElem?_eq_none h] at hi;cases hi
   have hc:css[i]? = some css[i]:=List.getElem?_eq_getElem (by omega);refine ⟨css[i],?_,sh.mono (h3 i x _ hi hc) (fun b hb=>⟨hb.1,fun e=>hb.2 (by rw [hob,e])⟩) (fun _ _ _ _ h=>h)⟩;intro j u hj
   have hlen : ∀cs∈css,cs.length=sh.sz:=fun cs hcs=>by
    obtain ⟨k,hk,rfl⟩:=List.mem_iff_getElem.1 hcs
    exact sh.len (h3 k xs[k] css[k] (List.getElem?_eq_getElem (by omega)) (List.getElem?_eq_getElem hk))
   have hjl:j<sh.sz:=by
    rw [←sh.len (h3 i x _ hi hc)]
    rcases Nat.lt_or_ge j css[i].length with h|h
    · exact h
    · rw [List.getElem?_eq_none h] at hj;cases hj
   have hget:css.flatten[i*sh.sz+j]? = some u:=by
    have hsp:css=css.take i++css[i]::css.drop (i+1):=by
     have h1:=(List.take_append_drop i css).symm
     rwa [List.drop_eq_getElem_cons (by omega)] at h1
    have hfl:css.flatten=(css.take i).flatten++(css[i]++(css.drop (i+1)).flatten):=by
     refine (congrArg List.flatten hsp).trans ?_;rw [List.flatten_append,List.flatten_cons]
    have htl:(css.take i).flatten.length=i*sh.sz:=by
     rw [Fj (fun cs hcs=>hlen cs (List.mem_of_mem_take hcs)),List.length_take]
     congr 1;omega
    rw [hfl,List.getElem?_append_right (by omega),htl,Nat.add_sub_cancel_left,List.getElem?_append_left (by rw [hlen _ (List.getElem_mem _)];exact hjl)]
    exact hj
   have:=hr.at (i:=i*sh.sz+j) hget
   have e:(⟨g,i*sh.sz,none⟩:Addr).add j=⟨g,0+(i*sh.sz+j),none⟩:=by unfold Addr.add;by_cases h0:j=0<;>simp [h0]
   rw [e];exact this
theorem OwnL.slice {α:Type} {sh:Shape α} {w:World} {B e:Nat} {v:Value} {xs:List α} (h:OwnL sh w B e v xs) : ∃a cap,v = .slice a xs.length cap:=by
 obtain ⟨css,h1,h2,h3⟩:=h.ex
 rcases h1.row with ⟨rfl,hn,-⟩|⟨g,cap,rfl,-⟩
 · exact ⟨none,0,by rw [hn]⟩
 · exact ⟨_,_,rfl⟩
theorem EN {S:Nat→Prop} {w:World} (t:Nd) (a:Option Addr) (h:t.sits S w a):t.sits (fun b=>S b∧b<w.heap.size) w a:=by
 have key : ∀N:Nat,(∀(l:List Nd) (a:Option Addr),Au l<N→rowSits S w l a→rowSits (fun b=>S b∧b<w.heap.size) w l a):=by
  intro N
  induction N with
  | zero=>intro l a h;omega
  | succ N ih=>
   intro l a hN h
   cases l with
   | nil=>simp [rowSits]
   | cons x r=>
    simp only [rowSits] at h ⊢;obtain ⟨b,o,a',c,rfl,hS,h0,h1,h2,h3,hs,hr⟩:=h;have hb:=Ca h0;simp only [Au] at hN;have hx:=Nd.size_pos x;obtain ⟨k,n,s,l⟩:=x;simp only [Nd.size] at hN;refine ⟨b,o,a',c,rfl,⟨hS,hb⟩,h0,h1,h2,h3,?_,ih r _ (by omega) hr⟩;simp only [Nd.sits] at hs ⊢
    exact ih l a' (by omega) hs
 obtain ⟨k,n,s,l⟩:=t;simp only [Nd.sits] at h ⊢
 exact key (Au l+1) l a (by omega) h
def ndShape:Shape Nd where
 sz:=4
 rep:=fun w S t cs=> ∃a c,cs=t.cells a c∧t.sits S w a
 len:=fun ⟨_,_,h,_⟩=>by rw [h];rfl
 one:=fun ⟨_,_,h,_⟩=>by rw [h];rfl
 mono:=fun ⟨a,c,h,hs⟩ hS hc=>⟨a,c,h,Nd.sits_mono hS hc _ a hs⟩
 lt:=fun ⟨a,c,h,hs⟩=>⟨a,c,h,EN _ a hs⟩
theorem DD {S:Nat→Prop} {w:World} {g:Nat} (hS:S g) : ∀(xs:List Nd) (o:Nat),(∀(i:Nat) (x:Nd),xs[i]? = some x → ∃a c,Row w ⟨g,o+i*4,none⟩ (x.cells a c)∧x.sits S w a)→rowSits S w xs (some ⟨g,o,none⟩)
 | [],_,_=>by simp [rowSits]
 | x::r,o,h=>by
  simp only [rowSits];obtain ⟨a,c,hr,hs⟩:=h 0 x rfl;simp only [Nat.zero_mul,Nat.add_zero] at hr;refine ⟨g,o,a,c,rfl,hS,hr.at0 rfl,hr.at (i:=1) rfl,hr.at (i:=2) rfl,hr.at (i:=3) rfl,hs,DD hS r (o+4) (fun i y hy=>?_)⟩;obtain ⟨a,c,hr,hs⟩:=h (i+1) y (by simpa using hy)
  exact ⟨a,c,by rw [show o+4+i*4=o+(i+1)*4 from by omega];exact hr,hs⟩
theorem OwnL.sits {w:World} {B e:Nat} {a:Option Addr} {len cap:Nat} {xs:List Nd} {S:Nat→Prop} (h:OwnL ndShape w B e (.slice a len cap) xs) (hS : ∀b,B≤b→S b):rowSits S w xs a:=by
 by_cases hx:xs=[]
 · subst hx;simp [rowSits]
 · obtain ⟨g,cap',hv,hg,hall⟩:=h.rows hx
   simp only [Value.slice.injEq] at hv;obtain ⟨rfl,-,-⟩:=hv;refine DD (hS g hg) xs 0 (fun i x hi=>?_);obtain ⟨cs,hr,a,c,rfl,hs⟩:=hall i x hi
   exact ⟨a,c,by simpa [ndShape] using hr,Nd.sits_mono (fun b hb=>hS b hb.1) (fun _ _ _ _ h=>h) _ _ hs⟩
theorem Mh {w:World} {b o:Nat} {v0 v1 v2 v3:Value} (h0:w.cell? ⟨b,o,none⟩=some v0) (h1:w.cell? ⟨b,o+1,none⟩=some v1) (h2:w.cell? ⟨b,o+2,none⟩=some v2) (h3:w.cell? ⟨b,o+3,none⟩=some v3):Row w ⟨b,o,none⟩ [v0,v1,v2,v3]:=fun i v hi=>by
 rcases i with _|_|_|_|i<;>simp at hi<;>(subst hi;simpa [Addr.add])
theorem Cv {S:Nat→Prop} {w:World} {l:List Nd} {a:Option Addr} (h:rowSits S w l a) (hl:l≠[]) : ∃b o,a=some ⟨b,o,none⟩∧S b ∧ ∀i t,l[i]? = some t → ∃a' c,Row w ⟨b,o+i*4,none⟩ (t.cells a' c)∧t.sits S w a':=by
 cases l with
 | nil=>exact absurd rfl hl
 | cons x r=>
  obtain ⟨b,o,a',c,rfl,hS,-⟩:=EK h (i:=0) (t:=x) rfl;refine ⟨b,o,rfl,hS,fun i t ht=>?_⟩;obtain ⟨b',o',a',c,he,-,h0,h1,h2,h3,hs⟩:=EK h ht;simp only [Option.some.injEq,Addr.mk.injEq] at he;obtain ⟨rfl,rfl,-⟩:=he
  exact ⟨a',c,Mh h0 h1 h2 h3,hs⟩
theorem GZ {S:Nat→Prop} {w:World} {k n:Int} {s:List UInt8} {l:List Nd} {a:Option Addr} (h:rowSits S w l a):(Nd.mk k n s l).sits S w a:=by simp only [Nd.sits];exact h
theorem OwnL.lt {α:Type} {sh:Shape α} {w:World} {B e:Nat} {v:Value} {xs:List α} (h:OwnL sh w B e v xs) {k:Nat} (hk:v.ownBlock=some k):k<w.heap.size:=by
 obtain ⟨css,h1,-⟩:=h.ex
 exact (h1.blk hk).2
theorem CK {S:Nat→Prop} {w:World} {k n:Int} {s:List UInt8} {a:Option Addr}:(Nd.mk k n s []).sits S w a:=by simp [Nd.sits,rowSits]
theorem Nd.sits.wide {S S':Nat→Prop} {w:World} {t:Nd} {a:Option Addr} (h:t.sits S w a) (hS : ∀b,S b→S' b):t.sits S' w a:=Nd.sits_mono hS (fun _ _ _ _ h=>h) t a h
section
variable {S:Nat→Prop} {w:World} {k n:Int} {s:List UInt8} {b:Nat} {x y z u:Nd} {xa ya za ua:Option Addr} {xc yc zc uc:Nat}
theorem Blk.sub {vs:List Value} (h:Blk w b vs) (i m:Nat):Row w ⟨b,i,none⟩ ((vs.drop i).take m):=by
 have:=h.row.sub i m
 simpa using this
theorem I5 {S1:Nat→Prop} (h:Blk w b (x.cells xa xc)) (hb:S b) (hx:x.sits S1 w xa) (kx : ∀b,S1 b→S b):(Nd.mk k n s [x]).sits S w (some ⟨b,0,none⟩):=by
 simp only [Nd.sits];refine DD hb _ 0 (fun i t ht=>?_)
 match i,ht with
 | 0,ht=>simp at ht;subst ht;exact ⟨xa,xc,h.sub 0 4,Nd.sits.wide hx kx⟩
theorem I6 {S1 S2:Nat→Prop} (h:Blk w b (x.cells xa xc++y.cells ya yc)) (hb:S b) (hx:x.sits S1 w xa) (kx : ∀b,S1 b→S b) (hy:y.sits S2 w ya) (ky : ∀b,S2 b→S b):(Nd.mk k n s [x,y]).sits S w (some ⟨b,0,none⟩):=by
 simp only [Nd.sits];refine DD hb _ 0 (fun i t ht=>?_)
 match i,ht with
 | 0,ht=>simp at ht;subst ht;exact ⟨xa,xc,h.sub 0 4,Nd.sits.wide hx kx⟩
 | 1,ht=>simp at ht;subst ht;exact ⟨ya,yc,h.sub 4 4,Nd.sits.wide hy ky⟩
theorem Vd {S1 S2 S3:Nat→Prop} (h:Blk w b (x.cells xa xc++y.cells ya yc++z.cells za zc)) (hb:S b) (hx:x.sits S1 w xa) (kx : ∀b,S1 b→S b) (hy:y.sits S2 w ya) (ky : ∀b,S2 b→S b) (hz:z.sits S3 w za) (kz : ∀b,S3 b→S b):(Nd.mk k n s [x,y,z]).sits S w (some ⟨b,0,none⟩):=by
 simp only [Nd.sits];refine DD hb _ 0 (fun i t ht=>?_)
 match i,ht with
 | 0,ht=>simp at ht;subst ht;exact ⟨xa,xc,h.sub 0 4,Nd.sits.wide hx kx⟩
 | 1,ht=>simp at ht;subst ht;exact ⟨ya,yc,h.sub 4 4,Nd.sits.wide hy ky⟩
 | 2,ht=>simp at ht;subst ht;exact ⟨za,zc,h.sub 8 4,Nd.sits.wide hz kz⟩
theorem Ve {S1 S2 S3 S4:Nat→Prop} (h:Blk w b (x.cells xa xc++y.cells ya yc++z.cells za zc++u.cells ua uc)) (hb:S b) (hx:x.sits S1 w xa) (kx : ∀b,S1 b→S b) (hy:y.sits S2 w ya) (ky : ∀b,S2 b→S b) (hz:z.sits S3 w za) (kz : ∀b,S3 b→S b) (hu:u.sits S4 w ua) (ku : ∀b,S4 b→S b):(Nd.mk k n s [x,y,z,u]).sits S w (some ⟨b,0,none⟩):=by
 simp only [Nd.sits];refine DD hb _ 0 (fun i t ht=>?_)
 match i,ht with
 | 0,ht=>simp at ht;subst ht;exact ⟨xa,xc,h.sub 0 4,Nd.sits.wide hx kx⟩
 | 1,ht=>simp at ht;subst ht;exact ⟨ya,yc,h.sub 4 4,Nd.sits.wide hy ky⟩
 | 2,ht=>simp at ht;subst ht;exact ⟨za,zc,h.sub 8 4,Nd.sits.wide hz kz⟩
 | 3,ht=>simp at ht;subst ht;exact ⟨ua,uc,h.sub 12 4,Nd.sits.wide hu ku⟩
end
def Cells (S:Nat→Prop) (w:World):List Nd→List Value→Prop
 | [],cs=>cs=[]
 | t::r,cs=> ∃a c ds,cs=t.cells a c++ds∧t.sits S w a∧Cells S w r ds
theorem Cells.len {S:Nat→Prop} {w:World} : ∀ {l:List Nd} {cs:List Value},Cells S w l cs→cs.length=l.length*4
 | [],_,h=>by rw [show _=[] from h];rfl
 | t::r,_,⟨a,c,ds,e,_,h⟩=>by
  have:=h.len;rw [e,List.length_append,this,List.length_cons]
  simp only [List.length_cons,List.length_nil];omega
theorem Cells.one {S:Nat→Prop} {w:World} : ∀ {l:List Nd} {cs:List Value},Cells S w l cs→cs.all Value.one=true
 | [],_,h=>by rw [show _=[] from h];rfl
 | t::r,_,⟨a,c,ds,e,_,h⟩=>by rw [e,List.all_append,h.one];rfl
theorem Cells.app {S:Nat→Prop} {w:World} : ∀ {l q:List Nd} {cs ds:List Value},Cells S w l cs→Cells S w q ds→Cells S w (l++q) (cs++ds)
 | [],_,_,_,h,k=>by rw [show _=[] from h];exact k
 | t::r,q,_,ds,⟨a,c,es,e,hs,h⟩,k=>⟨a,c,es++ds,by rw [e,List.append_assoc],hs,h.app k⟩
theorem Cells.fr {S T:Nat→Prop} {w w':World} (x:Fr T w w') (hd : ∀b,S b → ¬T b) : ∀ {l:List Nd} {cs:List Value},Cells S w l cs→Cells S w' l cs
 | [],_,h=>h
 | t::r,_,⟨a,c,ds,e,hs,h⟩=>⟨a,c,ds,e,hs.fr x hd,Cells.fr x hd h⟩
theorem TL {w:World} {b o:Nat} {us vs:List Value} (h1:Row w ⟨b,o,none⟩ us) (h2:Row w ⟨b,o+us.length,none⟩ vs):Row w ⟨b,o,none⟩ (us++vs):=fun i v hi=>by
 rcases Nat.lt_or_ge i us.length with hlt|hge
 · rw [List.getElem?_append_left hlt] at hi
   exact h1 i v hi
 · rw [List.getElem?_append_right hge] at hi
   have h:=h2.at hi
   have e:(⟨b,o,none⟩:Addr).add i=⟨b,o+i,none⟩:=by unfold Addr.add;by_cases h0:i=0<;>simp [h0]
   rw [e,show o+i=o+us.length+(i-us.length) by omega];exact h
theorem J7 {S S':Nat→Prop} {w:World} (hS : ∀b,S b→S' b) : ∀(l:List Nd) (g o:Nat) (cs:List Value),S' g→Row w ⟨g,o,none⟩ cs→Cells S w l cs→rowSits S' w l (some ⟨g,o,none⟩)
 | [],_,_,_,_,_,_=>by simp [rowSits]
 | t::r,g,o,_,hg,hr,⟨a,c,ds,e,hs,h⟩=>by
  subst e;simp only [rowSits]
  have hd:Row w ⟨g,o+4,none⟩ ds:=by
   have:=hr.sub 4 ds.length
   simpa using this
  exact ⟨g,o,a,c,rfl,hg,hr.at0 rfl,hr.at (i:=1) rfl,hr.at (i:=2) rfl,hr.at (i:=3) rfl,Nd.sits.wide hs hS,J7 hS r g (o+4) ds hg hd h⟩
def OwnG (e B:Nat) (w:World) (g cap:Nat) (l:List Nd):Prop:=B≤g ∧ ∃cs,Own w g e 4 (.slice (some ⟨g,0,none⟩) l.length cap) l.length cs∧Cells (· < B) w l cs
theorem OwnG.lt {e B:Nat} {w:World} {g cap:Nat} {l:List Nd} (h:OwnG e B w g cap l):g<w.heap.size:=by
 obtain ⟨-,cs,h1,-⟩:=h
 exact (h1.blk (k:=g) rfl).2
theorem OwnG.fr {e B:Nat} {T:Nat→Prop} {w w':World} {g cap:Nat} {l:List Nd} (h:OwnG e B w g cap l) (x:Fr T w w') (hs : ∀k,T k→B≤k∧k≠g):OwnG e B w' g cap l:=by
 obtain ⟨h0,cs,h1,h2⟩:=h;refine ⟨h0,cs,h1.fr x (fun k hk hT=>?_),h2.fr x (fun b hb hT=>?_)⟩
 · simp only [Value.ownBlock,Option.some.injEq] at hk
   exact (hs k hT).2 hk.symm
 · have:=(hs b hT).1;omega
instance {e B:Nat} {T:Nat→Prop} {w w':World} {g cap:Nat} {l:List Nd}:LfF T w w' (OwnG e B w g cap l) (∀k,T k→B≤k∧k≠g) (OwnG e B w' g cap l):=⟨fun x s h=>Bk.OwnG.fr h x s⟩
theorem OwnG.ext {e B:Nat} {w w':World} {g cap:Nat} {l:List Nd} (h:OwnG e B w g cap l) (x:Ext w w'):OwnG e B w' g cap l:=by
 obtain ⟨h0,cs,h1,h2⟩:=h
 exact ⟨h0,cs,h1.ext x,h2.fr (T:=fun _=>False) (.of_ext x) (fun _ _ h=>h)⟩
instance {e B:Nat} {w w':World} {g cap:Nat} {l:List Nd}:LfE w w' (OwnG e B w g cap l) (OwnG e B w' g cap l):=⟨fun x h=>Bk.OwnG.ext h x⟩
theorem OwnG.sits {e B:Nat} {w:World} {g cap:Nat} {l:List Nd} (h:OwnG e B w g cap l):rowSits (fun b=>b<B∨b=g) w l (some ⟨g,0,none⟩):=by
 obtain ⟨h0,cs,h1,h2⟩:=h
 rcases h1.row with ⟨hv,-⟩|⟨g',cap',hv,-,-,hr⟩
 · simp at hv
 · simp only [Value.slice.injEq,Option.some.injEq,Addr.mk.injEq,and_true] at hv
   obtain ⟨rfl,-⟩:=hv
   exact J7 (fun b hb=>Or.inl hb) l g 0 cs (Or.inr rfl) hr h2
theorem I7 {P:Program} (w:World) (t ty e:TypeId) (i:TypeInfo) (ht:P.underlying t=some (.slice e)) (hi:P.info? e=some i) (g n cap c:Nat) (hn:n≤cap) :
 (Builtin.append_ #[t,t] ty #[.slice (some ⟨g,0,none⟩) n cap,.slice none 0 c]).run P w = .ok (.slice (some ⟨g,0,none⟩) n cap) w:=by
 simp [Builtin.append_,AG ht,Go.sizeOf,typeInfo,hi,Builtin.lenOf,Builtin.firstCells,hn,storeCells]
def J8 (K:Value→World→Prop):Option Value→World→Prop
 | some v,w=>K v w
 | none,_=>False
section
variable {P:Program} {n:Nat} {l:Sl} {w:World} {tab:Tab} {zt:EL} {ty:TypeId}
end
abbrev VD.cells (v:VD):List Value:=[str v.name,.int .u8 v.kind,.int .i64 v.len]
abbrev VD.val (v:VD):Value:=.agg #[str v.name,.int .u8 v.kind,.int .i64 v.len]
def WE (w:World) (b o:Nat) (v:VD):Prop:=Row w ⟨b,o,none⟩ v.cells
def VDs (S:Nat→Prop) (w:World) (l:List VD) (a:Option Addr):Prop:=Arr S 3 WE w l a
abbrev PD.cells (p:PD) (pa:Option Addr) (pc:Nat) (ba:Option Addr) (bc:Nat):List Value:=[str p.name,.slice pa p.params.length pc,.int .u8 p.body.kind,.int .i64 p.body.num,str p.body.name,.slice ba p.body.kids.length bc]
def VT (S:Nat→Prop) (w:World) (b o:Nat) (p:PD):Prop:= ∃pa pc ba bc,Row w ⟨b,o,none⟩ (p.cells pa pc ba bc)∧VDs S w p.params pa∧p.body.sits S w ba
def PDs (S:Nat→Prop) (w:World) (l:List PD) (a:Option Addr):Prop:=Arr S 6 (VT S) w l a
theorem VDs.ext {S:Nat→Prop} {w w':World} {l:List VD} {a:Option Addr} (h:VDs S w l a) (x:Ext w w'):VDs S w' l a:=h.mono (fun _ h=>h) (fun _ _ _ _ _ h=>Row.ext h x)
instance {S:Nat→Prop} {w w':World} {l:List VD} {a:Option Addr}:LfE w w' (VDs S w l a) (VDs S w' l a):=⟨fun x h=>Bk.VDs.ext h x⟩
theorem PDs.ext {S:Nat→Prop} {w w':World} {l:List PD} {a:Option Addr} (h:PDs S w l a) (x:Ext w w'):PDs S w' l a:=
 h.mono (fun _ h=>h) (fun _ _ _ _ _ ⟨pa,pc,ba,bc,h1,h2,h3⟩=>⟨pa,pc,ba,bc,h1.ext x,h2.ext x,h3.ext x⟩)
instance {S:Nat→Prop} {w w':World} {l:List PD} {a:Option Addr}:LfE w w' (PDs S w l a) (PDs S w' l a):=⟨fun x h=>Bk.PDs.ext h x⟩
abbrev PG.cells (g:PG) (va:Option Addr) (vc:Nat) (pa:Option Addr) (pc:Nat) (ma:Option Addr) (mc:Nat):List Value:=
 [.slice va g.vars.length vc,.slice pa g.procs.length pc,.int .u8 g.main.kind,.int .i64 g.main.num,str g.main.name,.slice ma g.main.kids.length mc]
structure PG.sits (S:Nat→Prop) (w:World) (g:PG) (va pa ma:Option Addr):Prop where
 vars:VDs S w g.vars va
 procs:PDs S w g.procs pa
 main:g.main.sits S w ma
theorem PG.sits.ext {S:Nat→Prop} {w w':World} {g:PG} {va pa ma:Option Addr} (h:g.sits S w va pa ma) (x:Ext w w'):g.sits S w' va pa ma:=⟨h.vars.ext x,h.procs.ext x,h.main.ext x⟩
instance {S:Nat→Prop} {w w':World} {g:PG} {va pa ma:Option Addr}:LfE w w' (g.sits S w va pa ma) (g.sits S w' va pa ma):=⟨fun x h=>Bk.PG.sits.ext h x⟩
theorem VDs.fr {S T:Nat→Prop} {w w':World} {l:List VD} {a:Option Addr} (h:VDs S w l a) (x:Fr T w w') (hs : ∀b,S b → ¬T b):VDs S w' l a:=h.mono (fun _ h=>h) (fun b _ _ _ hb h=>Row.fr h x (hs b hb))
instance {S T:Nat→Prop} {w w':World} {l:List VD} {a:Option Addr}:LfF T w w' (VDs S w l a) (∀b,S b → ¬T b) (VDs S w' l a):=⟨fun x s h=>Bk.VDs.fr h x s⟩
theorem PDs.fr {S T:Nat→Prop} {w w':World} {l:List PD} {a:Option Addr} (h:PDs S w l a) (x:Fr T w w') (hs : ∀b,S b → ¬T b):PDs S w' l a:=
 h.mono (fun _ h=>h) (fun b _ _ _ hb ⟨pa,pc,ba,bc,h1,h2,h3⟩=>⟨pa,pc,ba,bc,h1.fr x (hs b hb),h2.fr x hs,h3.fr x hs⟩)
instance {S T:Nat→Prop} {w w':World} {l:List PD} {a:Option Addr}:LfF T w w' (PDs S w l a) (∀b,S b → ¬T b) (PDs S w' l a):=⟨fun x s h=>Bk.PDs.fr h x s⟩
theorem PG.sits.fr {S T:Nat→Prop} {w w':World} {g:PG} {va pa ma:Option Addr} (h:g.sits S w va pa ma) (x:Fr T w w') (hs : ∀b,S b → ¬T b):g.sits S w' va pa ma:=⟨h.vars.fr x hs,h.procs.fr x hs,h.main.fr x hs⟩
instance {S T:Nat→Prop} {w w':World} {g:PG} {va pa ma:Option Addr}:LfF T w w' (g.sits S w va pa ma) (∀b,S b → ¬T b) (g.sits S w' va pa ma):=⟨fun x s h=>Bk.PG.sits.fr h x s⟩
theorem VDs.wide {S S':Nat→Prop} {w:World} {l:List VD} {a:Option Addr} (h:VDs S w l a) (hs : ∀b,S b→S' b):VDs S' w l a:=h.mono hs (fun _ _ _ _ _ h=>h)
theorem M2 {w w':World} {b o:Nat} {vs:List Value} (h:Row w ⟨b,o,none⟩ vs) (hc : ∀o v,w.cell? ⟨b,o,none⟩=some v→w'.cell? ⟨b,o,none⟩=some v):Row w' ⟨b,o,none⟩ vs:=fun i v hi=>by
 have:=h.at hi
 have e:(⟨b,o,none⟩:Addr).add i=⟨b,o+i,none⟩:=by unfold Addr.add;by_cases h0:i=0<;>simp [h0]
 rw [e];exact hc _ _ this
theorem VDs.move {S S':Nat→Prop} {w w':World} {l:List VD} {a:Option Addr} (h:VDs S w l a) (hS : ∀b,S b→S' b) (hc : ∀b o v,S b→w.cell? ⟨b,o,none⟩=some v→w'.cell? ⟨b,o,none⟩=some v):VDs S' w' l a:=
 h.mono hS (fun b o x _ hb h=>M2 h (fun o v=>hc b o v hb))
theorem VDs.lt2 {S:Nat→Prop} {w:World} {l:List VD} {a:Option Addr} (h:VDs S w l a):VDs (fun b=>S b∧b<w.heap.size) w l a:=by
 rcases h with h|⟨b,o,h1,h2,h3⟩
 · exact Or.inl h
 · cases l with
   | nil=>exact Or.inl rfl
   | cons v r=>exact Or.inr ⟨b,o,h1,⟨h2,Ca (Row.at0 (h3 0 v rfl) rfl)⟩,h3⟩
def PH:Shape PD where
 sz:=6
 rep:=fun w S p cs=> ∃pa pc ba bc,cs=p.cells pa pc ba bc∧VDs S w p.params pa∧p.body.sits S w ba
 len:=fun ⟨_,_,_,_,h,_⟩=>by rw [h];rfl
 one:=fun ⟨_,_,_,_,h,_⟩=>by rw [h];rfl
 mono:=fun ⟨pa,pc,ba,bc,h,h1,h2⟩ hS hc=>⟨pa,pc,ba,bc,h,h1.move hS hc,Nd.sits_mono hS hc _ ba h2⟩
 lt:=fun ⟨pa,pc,ba,bc,h,h1,h2⟩=>⟨pa,pc,ba,bc,h,h1.lt2,EN _ ba h2⟩
theorem OwnL.pds {w:World} {B e:Nat} {a:Option Addr} {len cap:Nat} {xs:List PD} {S:Nat→Prop} (h:OwnL PH w B e (.slice a len cap) xs) (hS : ∀b,B≤b→S b):PDs S w xs a:=by
 by_cases hx:xs=[]
 · exact Or.inl hx
 · obtain ⟨g,cap',hv,hg,hall⟩:=h.rows hx
   simp only [Value.slice.injEq] at hv;obtain ⟨rfl,-,-⟩:=hv;refine Or.inr ⟨g,0,rfl,hS g hg,fun i x hi=>?_⟩;obtain ⟨cs,hr,pa,pc,ba,bc,rfl,h1,h2⟩:=hall i x hi
   exact ⟨pa,pc,ba,bc,by simpa [PH] using hr,h1.wide (fun b hb=>hS b hb.1),h2.wide (fun b hb=>hS b hb.1)⟩
theorem Hv:1≤maxLen:=by unfold maxLen;omega
theorem OwnL.lit {α:Type} {sh:Shape α} {w:World} {B b e:Nat} {x:α} {cs:List Value} (h:TB w b cs e) (hB:B≤b) (hr:sh.rep w (fun k=>B≤k∧k≠b) x cs):OwnL sh w B e (.slice (some ⟨b,0,none⟩) 1 1) [x]:=by
 have hl:=sh.len hr;refine ⟨[cs],⟨by simp [hl],Or.inr ⟨b,1,cs.toArray,rfl,hB,h,Nat.le_refl _,Hv,by simp [hl],by simp [←hl]⟩⟩,rfl,fun i y ds hy hd=>?_⟩
 match i,hy,hd with
 | 0,hy,hd=>
  simp at hy hd
  subst hy hd
  exact sh.mono hr (fun k hk=>⟨hk.1,fun e=>hk.2 (by simpa [Value.ownBlock] using e.symm)⟩) (fun _ _ _ _ h=>h)
def Rows (S:Nat→Prop) (w:World) (cs:List Value) (a:Option Addr):Prop:=cs=[] ∨ ∃b o,a=some ⟨b,o,none⟩∧S b∧Row w ⟨b,o,none⟩ cs
section
variable {S S' T:Nat→Prop} {w w':World} {cs:List Value} {a:Option Addr}
theorem Rows.nil:Rows S w [] a:=Or.inl rfl
theorem Rows.ext (h:Rows S w cs a) (x:Ext w w'):Rows S w' cs a:=h.imp id fun ⟨b,o,h1,h2,h3⟩=>⟨b,o,h1,h2,h3.ext x⟩
instance  : LfE w w' (Rows S w cs a) (Rows S w' cs a):=⟨fun x h=>Bk.Rows.ext h x⟩
theorem Rows.fr (h:Rows S w cs a) (x:Fr T w w') (hs : ∀b,S b → ¬T b):Rows S w' cs a:=h.imp id fun ⟨b,o,h1,h2,h3⟩=>⟨b,o,h1,h2,h3.fr x (hs b h2)⟩
instance  : LfF T w w' (Rows S w cs a) (∀b,S b → ¬T b) (Rows S w' cs a):=⟨fun x s h=>Bk.Rows.fr h x s⟩
theorem Rows.wide (h:Rows S w cs a) (hS : ∀b,S b→S' b):Rows S' w cs a:=h.imp id fun ⟨b,o,h1,h2,h3⟩=>⟨b,o,h1,hS b h2,h3⟩
theorem Rows.lt2 (h:Rows S w cs a):Rows (fun b=>S b∧b<w.heap.size) w cs a:=by
 rcases h with h|⟨b,o,h1,h2,h3⟩
 · exact Or.inl h
 · cases cs with
   | nil=>exact Or.inl rfl
   | cons v r=>exact Or.inr ⟨b,o,h1,⟨h2,Ca (Row.at0 h3 rfl)⟩,h3⟩
theorem Rows.ltA (h:Rows S w cs a):Rows (· < w.heap.size) w cs a:=h.lt2.wide fun _ h=>h.2
theorem Rows.get (h:Rows S w cs a) (hc:cs≠[]) : ∃b o,a=some ⟨b,o,none⟩∧S b∧Row w ⟨b,o,none⟩ cs:=h.resolve_left hc
theorem Rows.move (h:Rows S w cs a) (hS : ∀b,S b→S' b) (hc : ∀b o v,S b→w.cell? ⟨b,o,none⟩=some v→w'.cell? ⟨b,o,none⟩=some v):Rows S' w' cs a:=
 h.imp id fun ⟨b,o,h1,h2,h3⟩=>⟨b,o,h1,hS b h2,M2 h3 (fun o v=>hc b o v h2)⟩
end
def OwnF (e sz B:Nat) (w:World) (g cap n:Nat) (cs:List Value):Prop:=B≤g∧Own w g e sz (.slice (some ⟨g,0,none⟩) n cap) n cs
theorem OwnF.lt {e sz B:Nat} {w:World} {g cap n:Nat} {cs:List Value} (h:OwnF e sz B w g cap n cs):g<w.heap.size:=(h.2.blk (k:=g) rfl).2
theorem OwnF.fr {e sz B:Nat} {T:Nat→Prop} {w w':World} {g cap n:Nat} {cs:List Value} (h:OwnF e sz B w g cap n cs) (x:Fr T w w') (hs : ∀k,T k→k≠g):OwnF e sz B w' g cap n cs:=
 ⟨h.1,h.2.fr x (fun k hk hT=>by simp only [Value.ownBlock,Option.some.injEq] at hk;exact hs k hT hk.symm)⟩
instance {e sz B:Nat} {T:Nat→Prop} {w w':World} {g cap n:Nat} {cs:List Value}:LfF T w w' (OwnF e sz B w g cap n cs) (∀k,T k→k≠g) (OwnF e sz B w' g cap n cs):=⟨fun x s h=>Bk.OwnF.fr h x s⟩
theorem OwnF.ext {e sz B:Nat} {w w':World} {g cap n:Nat} {cs:List Value} (h:OwnF e sz B w g cap n cs) (x:Ext w w'):OwnF e sz B w' g cap n cs:=⟨h.1,h.2.ext x⟩
instance {e sz B:Nat} {w w':World} {g cap n:Nat} {cs:List Value}:LfE w w' (OwnF e sz B w g cap n cs) (OwnF e sz B w' g cap n cs):=⟨fun x h=>Bk.OwnF.ext h x⟩
theorem OwnF.row {e sz B:Nat} {w:World} {g cap n:Nat} {cs:List Value} (h:OwnF e sz B w g cap n cs):Row w ⟨g,0,none⟩ cs:=by
 rcases h.2.row with ⟨hv,-⟩|⟨g',cap',hv,-,-,hr⟩
 · simp at hv
 · simp only [Value.slice.injEq,Option.some.injEq,Addr.mk.injEq,and_true] at hv
   obtain ⟨rfl,-⟩:=hv
   exact hr
theorem OwnF.rows {e sz B:Nat} {w:World} {g cap n:Nat} {cs:List Value} {S:Nat→Prop} (h:OwnF e sz B w g cap n cs) (hS:S g):Rows S w cs (some ⟨g,0,none⟩):=Or.inr ⟨g,0,rfl,hS,h.row⟩
theorem OwnF.le {e sz B:Nat} {w:World} {g cap n:Nat} {cs:List Value} (h:OwnF e sz B w g cap n cs):n≤cap:=by
 rcases h.2.2 with ⟨hv,-⟩|⟨g',cap',cur,hv,-,-,hc,-⟩
 · simp at hv
 · simp only [Value.slice.injEq] at hv
   obtain ⟨-,-,rfl⟩:=hv;exact hc
section
variable {P:Program} {n:Nat} {l:Sl} {w:World} {tab:Tab} {zt:EL} {ty:TypeId}
theorem Iv {t e sz1 sz B:Nat} {sE:Sk} (T:TabOk P tab) (ht:AL tab t=some (.slice e,sz1)) (hE:AL tab e=some (sE,sz)) (hB:B≤w.heap.size) :
 Cj P n l (.buildSlice t 0 #[]) ty w (J8 fun o w'=> ∃g,o = .slice (some ⟨g,0,none⟩) 0 0∧OwnF e sz B w' g 0 0 []∧w.heap.size≤g∧g<w'.heap.size∧Ext w w'):=by
 unfold Cj
 intro a dst pos after g next Q ha hn _;obtain ⟨i,hi,hs⟩:=(T _ _ _ hE).info;have hu:=(T _ _ _ ht).under
 have e1:(Instr.buildSlice t 0 #[]).run P w = .ok (.slice (some ⟨w.heap.size,0,none⟩) 0 0) (w.alloc (.cells #[] e)):=by
  simp [Instr.buildSlice,AG hu,Go.sizeOf,typeInfo,hi,Instr.fill,newRow,show Array.range 0 = #[] from rfl]
 have e2:(execOp a.eval ⟨dst,.buildSlice t 0 #[],ty,pos,after,g⟩).run P w = .ok (.value (.slice (some ⟨w.heap.size,0,none⟩) 0 0)) (w.alloc (.cells #[] e)):=by
  simp [execOp,Sem.run_bind,e1,Result.andThen_ok]
 unfold Oper.wp
 rw [e2];have hx:Ext w (w.alloc (.cells #[] e)):=(Er w [] e).ext;refine hn _ _ ⟨w.heap.size,rfl,⟨hB,by simp,Or.inr ⟨w.heap.size,0,#[],rfl,Nat.le_refl _,?_,Nat.le_refl _,by unfold maxLen;omega,by simp,by simp⟩⟩,Nat.le_refl _,?_,hx⟩
 · rw [show (w.alloc (Obj.cells #[] e)).heap=w.heap.push (.cells #[] e) from rfl];simp
 · rw [show (w.alloc (Obj.cells #[] e)).heap=w.heap.push (.cells #[] e) from rfl];simp
theorem Iw {x y:Operand} {t e sz1 sz B g cap c k m:Nat} {sE:Sk} {zs:List Value} {a:Option Addr} {cs ds:List Value} {S:Nat→Prop} (T:TabOk P tab) (Z:CO P zt) (ht:AL tab t=some (.slice e,sz1)) (hE:AL tab e=some (sE,sz)) (hz:Dx zt e=some zs) (hzl:zs.length=sz)
 (hby:DT P e=true) (hsz:Nat.blt 0 sz=true) (hx:ev l x=some (.slice (some ⟨g,0,none⟩) k cap)) (hy:ev l y=some (.slice a m c)) (hown:OwnF e sz B w g cap k cs) (hs:Rows S w ds a) (hl:ds.length=m*sz) (hone:ds.all Value.one=true) (hkm:k+m≤100000000000) :
 Cj P n l (.call ⟨.builtin .append,#[x,y],#[t,t]⟩) ty w (J8 fun o w'=> ∃g' cap',o = .slice (some ⟨g',0,none⟩) (k+m) cap'∧OwnF e sz B w' g' cap' (k+m) (cs++ds)∧(g'=g∨w.heap.size≤g')∧g'<w'.heap.size∧Fr (fun k=>k=g) w w'):=by
 have hlt:=hown.lt;have hncap:=hown.le;obtain ⟨h0,h1⟩:=hown
 have hsz':0<sz:=by simpa using hsz
 by_cases hm:m=0
 · subst hm
   have d:ds=[]:=by simpa using hl
   subst d
   unfold Cj
   intro act dst pos after gd next Q ha hn _;obtain ⟨i,hi,hsz⟩:=(T _ _ _ hE).info;have hun:=(T _ _ _ ht).under
   have key : ∃w',(Builtin.append_ #[t,t] ty #[.slice (some ⟨g,0,none⟩) k cap,.slice a 0 c]).run P w = .ok (.slice (some ⟨g,0,none⟩) k cap) w'∧Own w' g e sz (.slice (some ⟨g,0,none⟩) k cap) k cs∧Fr (fun k=>k=g) w w':=by
    cases a with
    | none=>exact ⟨w,I7 w t ty e i hun hi g k cap c hncap,h1,.of_ext (Ext.refl w)⟩
    | some p=>
     obtain ⟨w',r1,r2,r3⟩:=run_append_fits (P:=P) w g t ty e i sz hun hi hsz g k cap cs h1 p 0 c [] (by simp) (fun j u hj=>by simp at hj) (fun u hu=>by cases hu) (by omega);refine ⟨w',by simpa using r1,by simpa using r2,?_⟩;have:=Fr.of_grown r3
     exact this.weaken (fun b hb=>by simpa using hb)
   obtain ⟨w',hrun,ho,hf⟩:=key
   have e1:(execOp act.eval ⟨dst,.call ⟨.builtin .append,#[x,y],#[t,t]⟩,ty,pos,after,gd⟩).run P w = .ok (.value (.slice (some ⟨g,0,none⟩) k cap)) w':=by
    simp only [execOp,resolve,invoke,builtin,Sem.run_bind,Sem.run_pure,Result.andThen_ok,List.map_toArray,List.map_cons,List.map_nil,ha.ev hx,ha.ev hy,hrun]
   unfold Oper.wp
   rw [e1];have hsz':=hf.size
   exact hn _ _ ⟨g,cap,by simp,⟨h0,by simpa using ho⟩,Or.inl rfl,by omega,hf⟩
 · have hdn:ds≠[]:=by
    rintro rfl;simp only [List.length_nil] at hl;have:=Nat.mul_pos (Nat.pos_of_ne_zero hm) hsz'
    omega
   obtain ⟨pb,po,rfl,-,d1⟩:=hs.get hdn;have hd:=Fz (P:=P) (n:=n) (l:=l) (ty:=ty) T Z ht hE hz hzl hby hsz hx hy h1 d1 hl hone (by omega) (by omega) (by omega)
   unfold Cj at hd ⊢
   intro act dst pos after gd next Q ha hn q;refine hd act dst pos after gd next Q ha (fun v' w' hG=>?_) (fun w' hG=>hG.elim);obtain ⟨g1,g2,g',cap',g3,g4⟩:=hG;have hf:Fr (fun k=>k=g) w w':=g2.weaken (fun b hb=>by simpa [Value.ownBlock] using hb.symm);subst g3;have hgg:=g1.blk (k:=g') rfl;refine hn _ w' ⟨g',cap',rfl,⟨by omega,?_⟩,?_,hgg.2,hf⟩
   · obtain ⟨k1,k2|⟨g2',f,cur,k3,k4,k5⟩⟩:=g1
     · simp at k2
     · simp only [Value.slice.injEq,Option.some.injEq,Addr.mk.injEq,and_true,true_and] at k3
       obtain ⟨rfl,rfl⟩:=k3
       exact ⟨k1,Or.inr ⟨g',cap',cur,rfl,Nat.le_refl _,k5⟩⟩
   · rcases g4 with h|h
     · simp only [Value.ownBlock,Option.some.injEq] at h
       exact Or.inl h.symm
     · exact Or.inr h
end
theorem LC {α:Type} {f:α→List Value} {sz:Nat} (hf : ∀x,(f x).length=sz) {w:World} {b:Nat} : ∀(l:List α) (o:Nat),(∀(i:Nat) (x:α),l[i]? = some x→Row w ⟨b,o+i*sz,none⟩ (f x))→Row w ⟨b,o,none⟩ (l.flatMap f)
 | [],o,_=>fun i v hi=>by simp at hi
 | x::r,o,h=>by
  rw [List.flatMap_cons];refine TL (by simpa using h 0 x rfl) ?_;rw [hf x];refine LC hf r (o+sz) (fun i y hy=>?_);have:=h (i+1) y hy;rw [show o+sz+i*sz=o+(i+1)*sz by rw [Nat.add_mul];omega]
  exact this
theorem LD {α:Type} {f:α→List Value} {sz:Nat} (hf : ∀x,(f x).length=sz) {w:World} {b:Nat} : ∀(l:List α) (o:Nat),Row w ⟨b,o,none⟩ (l.flatMap f) → ∀(i:Nat) (x:α),l[i]? = some x→Row w ⟨b,o+i*sz,none⟩ (f x)
 | [],_,_,i,x,hi=>by simp at hi
 | y::r,o,h,i,x,hi=>by
  rw [List.flatMap_cons] at h
  cases i with
  | zero=>
   simp only [List.getElem?_cons_zero,Option.some.injEq] at hi;subst hi;intro j v hj
   have hlt:j<(f y).length:=by
    rcases Nat.lt_or_ge j (f y).length with h'|h'
    · exact h'
    · rw [List.getElem?_eq_none h'] at hj;cases hj
   have:=h j v (by rw [List.getElem?_append_left hlt];exact hj)
   simpa using this
  | succ i=>
   simp only [List.getElem?_cons_succ] at hi
   have hd:Row w ⟨b,o+sz,none⟩ (r.flatMap f):=by
    have:=h.sub sz (r.flatMap f).length;rw [List.drop_left' (hf y),List.take_length] at this
    exact this
   have:=LD hf r (o+sz) hd i x hi;rw [show o+(i+1)*sz=o+sz+i*sz by rw [Nat.add_mul];omega]
   exact this
theorem GF {α:Type} {f:α→List Value} {sz:Nat} (hf : ∀x,(f x).length=sz) : ∀l:List α,(l.flatMap f).length=l.length*sz
 | []=>by simp
 | x::r=>by rw [List.flatMap_cons,List.length_append,hf x,GF hf r,List.length_cons,Nat.add_mul];omega
theorem Jm {α:Type} {f:α→List Value} (hf : ∀x,(f x).all Value.one=true) : ∀l:List α,(l.flatMap f).all Value.one=true
 | []=>rfl
 | x::r=>by rw [List.flatMap_cons,List.all_append,hf x,Jm hf r];rfl
theorem LE {P:Program} {n:Nat} {l:Sl} {S:World→Prop} {tab:Tab} {t t' ty sz e:Nat} {x:Operand} {a:Option Addr} {m c:Nat} (T:TabOk P tab) (ht:AL tab t=some (.slice e,sz)) (hx:ev l x=some (.slice a m c)):BE P n l S (.binOp .eql t x (.const (.slice none 0 0)) t') ty (.bool a.isNone):=by
 unfold BE
 intro act w dst pos after g ha _;have hu:P.underlying t=some (.slice e):=(T _ _ _ ht).under
 have e1:(eqGuard .eql t x (.const (.slice none 0 0)) (.slice a m c) (.slice none 0 0)).run P w = .ok () w:=by unfold eqGuard;simp
 have e2:(Op.equal t (.slice a m c) (.slice none 0 0)).run P w = .ok a.isNone w:=by
  show (Op.equalIn (9999+1) t (.slice a m c) (.slice none 0 0)).run P w=_
  unfold Op.equalIn
  cases a<;>simp [AG hu,Result.andThen]
 have hn:act.eval (.const (.slice none 0 0)) = .slice none 0 0:=rfl
 simp [execOp,ha.ev hx,hn,e1,e2,binOp]
theorem J9 {P:Program} {n:Nat} {l:Sl} {S:World→Prop} {tab:Tab} {t t' ty sz e:Nat} {x:Operand} {m c:Nat} (T:TabOk P tab) (ht:AL tab t=some (.slice e,sz)) (hx:ev l x=some (.slice none m c)):BE P n l S (.binOp .eql t x (.const (.slice none 0 0)) t') ty (.bool true):=LE T ht hx
theorem Ka {P:Program} {n:Nat} {l:Sl} {S:World→Prop} {tab:Tab} {t t' ty sz e:Nat} {x:Operand} {p:Addr} {m c:Nat} (T:TabOk P tab) (ht:AL tab t=some (.slice e,sz)) (hx:ev l x=some (.slice (some p) m c)):BE P n l S (.binOp .eql t x (.const (.slice none 0 0)) t') ty (.bool false):=LE T ht hx
end Bk
namespace Go.Proofs
open Go.Shelf
def Tryz.lays137_ren:Go.Shelf.Ren:=⟨fun|137=>122|217=>147|266=>164|n=>n,fun|9=>9|5=>5|3=>3|n=>n,fun|n=>n⟩
theorem Tryz.lays137:Go.Proofs.Lays.n137 prog Tryz.lays137_ren:={
 mixed:=by kernel_rfl
 f137:=func122.trans (congrArg some (by kernel_rfl))
 f217:=func147.trans (congrArg some (by kernel_rfl))
 f266:=func164.trans (congrArg some (by kernel_rfl))
 t3:=underlying3
 a3:=isAgg3
 z3:=sizeOf3
 v3:=zeroValue3
 t5:=underlying5
 a5:=isAgg5
 z5:=sizeOf5
 v5:=zeroValue5
 t9:=underlying9
 a9:=isAgg9
 z9:=sizeOf9
 v9:=zeroValue9 }
open Go.RowKit in
theorem Tryz.strings_IndexByte (s:ByteArray) (c:Int) (w:World) :
 Calls prog 122 #[.string s,.int .u8 c] w fun e w'=>e = .returned (.int .i64 (Lib.indexByte s.data.toList c.toNat.toUInt8))∧w'=w:=Any.strings_IndexByte Tryz.lays137 s c w
def Tryz.laysC172_ren:Go.Shelf.Ren:=⟨fun|172=>188|244=>194|245=>195|247=>200|279=>201|280=>202|281=>203|282=>204|287=>207|316=>208|171=>210|205=>209|321=>212|322=>213|243=>214|246=>216|283=>217|284=>218|285=>219|286=>220|129=>222|317=>221|318=>223|319=>224|320=>225|337=>226|338=>227|n=>n,fun|9=>9|3=>3|75=>217|76=>218|4=>4|5=>5|167=>228|37=>124|0=>0|85=>229|2=>2|168=>231|53=>235|175=>236|46=>238|210=>241|127=>244|145=>247|143=>245|21=>21|171=>250|173=>253|212=>256|51=>257|20=>20|213=>258|232=>262|233=>263|80=>166|n=>n,fun|15=>2|16=>3|17=>4|18=>5|19=>6|n=>n⟩
theorem Tryz.laysC172:Go.Proofs.LaysC.n172 prog Tryz.laysC172_ren:={
 mixed:=by kernel_rfl
 f129:=func222.trans (congrArg some (by kernel_rfl))
 f171:=func210.trans (congrArg some (by kernel_rfl))
 f172:=func188.trans (congrArg some (by kernel_rfl))
 f205:=func209.trans (congrArg some (by kernel_rfl))
 f243:=func214.trans (congrArg some (by kernel_rfl))
 f244:=func194.trans (congrArg some (by kernel_rfl))
 f245:=func195.trans (congrArg some (by kernel_rfl))
 f246:=func216.trans (congrArg some (by kernel_rfl))
 f247:=func200.trans (congrArg some (by kernel_rfl))
 f279:=func201.trans (congrArg some (by kernel_rfl))
 f280:=func202.trans (congrArg some (by kernel_rfl))
 f281:=func203.trans (congrArg some (by kernel_rfl))
 f282:=func204.trans (congrArg some (by kernel_rfl))
 f283:=func217.trans (congrArg some (by kernel_rfl))
 f284:=func218.trans (congrArg some (by kernel_rfl))
 f285:=func219.trans (congrArg some (by kernel_rfl))
 f286:=func220.trans (congrArg some (by kernel_rfl))
 f287:=func207.trans (congrArg some (by kernel_rfl))
 f316:=func208.trans (congrArg some (by kernel_rfl))
 f317:=func221.trans (congrArg some (by kernel_rfl))
 f318:=func223.trans (congrArg some (by kernel_rfl))
 f319:=func224.trans (congrArg some (by kernel_rfl))
 f320:=func225.trans (congrArg some (by kernel_rfl))
 f321:=func212.trans (congrArg some (by kernel_rfl))
 f322:=func213.trans (congrArg some (by kernel_rfl))
 f337:=func226.trans (congrArg some (by kernel_rfl))
 f338:=func227.trans (congrArg some (by kernel_rfl))
 t0:=underlying0
 a0:=isAgg0
 z0:=sizeOf0
 v0:=zeroValue0
 t2:=underlying2
 a2:=isAgg2
 z2:=sizeOf2
 v2:=zeroValue2
 t3:=underlying3
 a3:=isAgg3
 z3:=sizeOf3
 v3:=zeroValue3
 t4:=underlying4
 a4:=isAgg4
 z4:=sizeOf4
 v4:=zeroValue4
 t5:=underlying5
 a5:=isAgg5
 z5:=sizeOf5
 v5:=zeroValue5
 t9:=underlying9
 a9:=isAgg9
 z9:=sizeOf9
 v9:=zeroValue9
 t20:=underlying20
 a20:=isAgg20
 z20:=sizeOf20
 v20:=zeroValue20
 t21:=underlying21
 a21:=isAgg21
 z21:=sizeOf21
 v21:=zeroValue21
 t37:=underlying124
 a37:=isAgg124
 z37:=sizeOf124
 v37:=zeroValue124
 t46:=underlying238
 a46:=isAgg238
 z46:=sizeOf238
 v46:=zeroValue238
 t51:=underlying257
 a51:=isAgg257
 z51:=sizeOf257
 v51:=zeroValue257
 t53:=underlying235
 a53:=isAgg235
 z53:=sizeOf235
 v53:=zeroValue235
 t75:=underlying217
 a75:=isAgg217
 z75:=sizeOf217
 v75:=zeroValue217
 t76:=underlying218
 a76:=isAgg218
 z76:=sizeOf218
 v76:=zeroValue218
 t85:=underlying229
 a85:=isAgg229
 z85:=sizeOf229
 v85:=zeroValue229
 t127:=underlying244
 a127:=isAgg244
 z127:=sizeOf244
 v127:=zeroValue244
 t143:=underlying245
 a143:=isAgg245
 z143:=sizeOf245
 v143:=zeroValue245
 t145:=underlying247
 a145:=isAgg247
 z145:=sizeOf247
 v145:=zeroValue247
 t167:=underlying228
 a167:=isAgg228
 z167:=sizeOf228
 v167:=zeroValue228
 t168:=underlying231
 a168:=isAgg231
 z168:=sizeOf231
 v168:=zeroValue231
 t171:=underlying250
 a171:=isAgg250
 z171:=sizeOf250
 v171:=zeroValue250
 t173:=underlying253
 a173:=isAgg253
 z173:=sizeOf253
 v173:=zeroValue253
 t175:=underlying236
 a175:=isAgg236
 z175:=sizeOf236
 v175:=zeroValue236
 t210:=underlying241
 a210:=isAgg241
 z210:=sizeOf241
 v210:=zeroValue241
 t212:=underlying256
 a212:=isAgg256
 z212:=sizeOf256
 v212:=zeroValue256
 t213:=underlying258
 a213:=isAgg258
 z213:=sizeOf258
 t232:=underlying262
 a232:=isAgg262
 z232:=sizeOf262
 v232:=zeroValue262
 t233:=underlying263
 a233:=isAgg263
 z233:=sizeOf263
 v233:=zeroValue263
 g15:=by kernel_rfl
 g16:=by kernel_rfl
 g17:=by kernel_rfl
 g18:=by kernel_rfl
 g19:=by kernel_rfl
 t80:=underlying166
 a80:=isAgg166
 z80:=sizeOf166
 v80:=zeroValue166
 i0:=by kernel_rfl
 i2:=by kernel_rfl
 i3:=by kernel_rfl
 i4:=by kernel_rfl
 i5:=by kernel_rfl
 i9:=by kernel_rfl
 i20:=by kernel_rfl
 i21:=by kernel_rfl
 i37:=by kernel_rfl
 i46:=by kernel_rfl
 i51:=by kernel_rfl
 i53:=by kernel_rfl
 i75:=by kernel_rfl
 i76:=by kernel_rfl
 i80:=by kernel_rfl
 i85:=by kernel_rfl
 i127:=by kernel_rfl
 i143:=by kernel_rfl
 i145:=by kernel_rfl
 i167:=by kernel_rfl
 i168:=by kernel_rfl
 i171:=by kernel_rfl
 i173:=by kernel_rfl
 i175:=by kernel_rfl
 i210:=by kernel_rfl
 i212:=by kernel_rfl
 i232:=by kernel_rfl
 i233:=by kernel_rfl
 m15:=by kernel_rfl
 m16:=by kernel_rfl
 m17:=by kernel_rfl
 m18:=by kernel_rfl
 m19:=by kernel_rfl
 c0:=by kernel_rfl
 c2:=by kernel_rfl
 c3:=by kernel_rfl
 c4:=by kernel_rfl
 c5:=by kernel_rfl
 c9:=by kernel_rfl
 c20:=by kernel_rfl
 c21:=by kernel_rfl
 c37:=by kernel_rfl
 c46:=by kernel_rfl
 c51:=by kernel_rfl
 c53:=by kernel_rfl
 c75:=by kernel_rfl
 c76:=by kernel_rfl
 c80:=by kernel_rfl
 c85:=by kernel_rfl
 c127:=by kernel_rfl
 c143:=by kernel_rfl
 c145:=by kernel_rfl
 c167:=by kernel_rfl
 c168:=by kernel_rfl
 c171:=by kernel_rfl
 c173:=by kernel_rfl
 c175:=by kernel_rfl
 c210:=by kernel_rfl
 c212:=by kernel_rfl
 c213:=by kernel_rfl
 c232:=by kernel_rfl
 c233:=by kernel_rfl }
open Go.RowKit in
theorem Tryz.strconv_Atoi_ok (s:ByteArray) (hmax:s.size≤9223372036854775806) (v:Int) (h:Lib.atoiAll s.data.toList = .ok v) (w:World) :
 Calls prog 188 #[.string s] w fun e w'=>e = .returned (.tuple #[.int .i64 v,.nilIface])∧(w'=w ∨ ∃t,w'=Lib.bytesWorld w 5 t):=Any.strconv_Atoi_ok Tryz.laysC172 s hmax v h w
open Go.RowKit in
theorem Tryz.strconv_Atoi_range (s:ByteArray) (hlim:s.size≤281474976710656) (h:Lib.atoiAll s.data.toList = .range) (ev:Value) (w:World) (hv:w.cell? ⟨3,0,none⟩=some ev) (hev:ev = .nilIface ∨ ∃te pe,ev = .iface te pe) :
 Calls prog 188 #[.string s] w fun e w'=> ∃N,e = .returned (.tuple #[.int .i64 (Lib.atoiSat s.data.toList),.iface 231 (.pointer (some ⟨N,0,none⟩))])∧w.heap.size≤N∧w'.heap[N]? = some (.cells #[.string ⟨#[65,116,111,105]⟩,.string s,ev] 241 (0,0))∧Below w.heap.size w w':=Any.strconv_Atoi_range Tryz.laysC172 s hlim h ev w hv hev
def Tryz.lays99_ren:Go.Shelf.Ren:=⟨fun|99=>121|206=>146|n=>n,fun|9=>9|4=>4|3=>3|n=>n,fun|n=>n⟩
theorem Tryz.lays99:Go.Proofs.Lays.n99 prog Tryz.lays99_ren:={
 mixed:=by kernel_rfl
 f99:=func121.trans (congrArg some (by kernel_rfl))
 f206:=func146.trans (congrArg some (by kernel_rfl))
 t3:=underlying3
 a3:=isAgg3
 z3:=sizeOf3
 v3:=zeroValue3
 t4:=underlying4
 a4:=isAgg4
 z4:=sizeOf4
 v4:=zeroValue4
 t9:=underlying9
 a9:=isAgg9
 z9:=sizeOf9
 v9:=zeroValue9 }
open Go.RowKit Go.Lib in
theorem Tryz.strings_HasPrefix (s p:ByteArray) (w:World) :
 Calls prog 121 #[.string s,.string p] w fun e w'=>e = .returned (.bool (Lib.hasPrefix s.data.toList p.data.toList))∧w'=w:=Any.strings_HasPrefix Tryz.lays99 s p w
end Go.Proofs
namespace Bk
open Go Go.RowKit Go.Proofs
theorem Mi {k:IntKind} {a b:Int} (h:a=b):Ending.returned (.int k a) = .returned (.int k b):=by rw [h]
theorem AY {a b:Bool} (h:a=b):Ending.returned (.bool a) = .returned (.bool b):=by rw [h]
theorem FJ (k:Int) (w:World) (h0:0≤k) (h1:k≤255):Calls prog 145 #[.int .u8 k] w fun e w'=>e = .returned (.int .i64 (Dz k))∧w=w':=by
 go_enter func145,ntmps145
 go_wp2_with fail
 all_goals go_ret
 all_goals (refine ⟨Mi ?_,rfl⟩;(try simp only [beq_iff_eq,beq_eq_false_iff_ne,ne_eq,bne_iff_ne,decide_eq_true_eq,decide_eq_false_iff_not] at *);first|(subst k;rfl)|(unfold Dz;(repeat' split)<;>omega))
structure Syms (w:World):Prop where
 sym : ∀i,i<43→w.cell? ⟨0,i,none⟩=some (str (symbols.getD i []))
theorem Syms.ext {w w':World} (h:Syms w) (x:Ext w w'):Syms w':=⟨fun i hi=>x.keep (h.sym i hi)⟩
instance {w w':World}:LfE w w' (Syms w) (Syms w'):=⟨fun x h=>Bk.Syms.ext h x⟩
theorem Syms.fr {S:Nat→Prop} {w w':World} (h:Syms w) (x:Fr S w w') (hs : ∀k,S k→0<k):Syms w':=⟨fun i hi=>x.keep (fun e=>by have:=hs _ e;omega) (h.sym i hi)⟩
instance {S:Nat→Prop} {w w':World}:LfF S w w' (Syms w) (∀k,S k→0<k) (Syms w'):=⟨fun x s h=>Bk.Syms.fr h x s⟩
theorem OB (k:Int) (h:43≤k):Fh k=[]:=by
 unfold Fh
 rw [List.getD_eq_getElem?_getD,List.getElem?_eq_none (show 43≤k.toNat by omega)]
 rfl
theorem Kb (k:Int) (w:World) (h0:0≤k) (h1:k≤255) (ht:Syms w):Calls prog 74 #[.int .u8 k] w fun e w'=>e = .returned (str (Fh k))∧w=w':=by
 by_cases hk:k<43
 · have g:=ht.sym k.toNat (by omega)
   have G:Hid (symbols.getD k.toNat []=Fh k):=Lib.hid rfl;clear ht
   go_enter func74,ntmps74
   go_wp2_with fail
   go_ret
   rw [←G.out]
   exact ⟨by simp [go_sem],rfl⟩
 · have hn:=OB k (by omega)
   have HN:=Lib.hid hn;clear hn ht
   go_enter func74,ntmps74
   go_wp2_with fail
   go_ret
   rw [HN.out]
   exact ⟨rfl,rfl⟩
theorem M3 (c:UInt8) (w:World):Calls prog 93 #[.int .u8 c.toNat] w fun e w'=>e = .returned (.bool (Fg c))∧w=w':=by
 go_enter func93,ntmps93
 go_wp2_with fail
 all_goals go_ret
 all_goals (refine ⟨AY ?_,rfl⟩;unfold Fg;rw [Bool.eq_iff_iff];simp;try omega)
theorem Mj (c:UInt8) (w:World):Calls prog 96 #[.int .u8 c.toNat] w fun e w'=>e = .returned (.bool (C8 c))∧w=w':=by
 go_enter func96,ntmps96
 go_wp2_with fail
 all_goals go_ret
 all_goals (refine ⟨AY ?_,rfl⟩;unfold C8;rw [Bool.eq_iff_iff];simp;try omega)
theorem PI (c:UInt8) (w:World):Calls prog 97 #[.int .u8 c.toNat] w fun e w'=>e = .returned (.bool (Hc c))∧w=w':=by
 go_enter func97,ntmps97
 go_wp2_with fail
 all_goals go_ret
 all_goals (refine ⟨AY ?_,rfl⟩;unfold Hc;rw [Bool.eq_iff_iff];simp;try omega)
theorem TM (c:UInt8) (w:World):Calls prog 98 #[.int .u8 c.toNat] w fun e w'=>e = .returned (.bool (M0 c))∧w=w':=by
 go_enter func98,ntmps98
 go_wp2_with fail
 all_goals go_ret
 all_goals (refine ⟨AY ?_,rfl⟩;unfold M0;rw [Bool.eq_iff_iff];simp;try omega)
theorem Qv (c:UInt8) (w:World):Calls prog 95 #[.int .u8 c.toNat] w fun e w'=>e = .returned (.bool (Io c))∧w=w':=by
 go_enter func95,ntmps95
 cases hl:Fg c
 all_goals have HL:=Lib.hid hl;clear hl
 all_goals go_wp2_with (first|(go_at_call 93;refine (M3 c _).mono ?_;rintro e w' ⟨rfl,rfl⟩;rw [HL.out])|(go_at_call 96;refine (Mj c _).mono ?_;rintro e w' ⟨rfl,rfl⟩))
 all_goals go_ret
 all_goals (refine ⟨AY ?_,rfl⟩;unfold Io;rw [HL.out];simp)
theorem Mk (f:FuncId) (p:UInt8→Bool) (hp : ∀(c:UInt8) (w:World),Calls prog f #[.int .u8 c.toNat] w fun e w'=>e = .returned (.bool (p c))∧w=w')
 (he : ∀args w,(callFunc f args).run prog w = .ok (.enter f args) w) (s:List UInt8) (w:World) (hs:s.length≤9223372036854775807) :
 Calls prog 94 #[str s,.func (.func f) #[] #[]] w fun e w'=>e = .returned (.int .i64 (GB p s))∧w=w':=by
 have HP:=Lib.hid hp;clear hp
 go_enter func94,ntmps94
 go_wp2_with fail
 go_loop [8] (fun i=> ∃j:Nat,j≤s.length∧i = .int .i64 j∧Hid (GB p s=j+GB p (s.drop j))) (fun i=>s.length-(intOf i).toNat)
 case atStart=>exact ⟨0,Nat.zero_le _,rfl,Lib.hid (by simp)⟩
 case round=>
  obtain ⟨j,hj,rfl,HJ⟩:=hrel
  by_cases hlt:j<s.length
  · go_wp2_with fail
    refine (HP.out s[j] _).mono ?_;rintro e w' ⟨rfl,rfl⟩;have hd:=List.drop_eq_getElem_cons hlt
    have hsp:GB p (s.drop j)=if p s[j] then 1+GB p (s.drop (j+1)) else 0:=by
     rw [hd];unfold GB;rw [List.takeWhile_cons];split<;>simp;omega
    have HSP:=Lib.hid hsp;clear hsp hd
    cases hb:p s[j]
    · have HB:=Lib.hid hb;clear hb
      go_wp2_with fail
      go_ret
      refine ⟨Mi ?_,rfl⟩
      rw [HJ.out,HSP.out,HB.out];simp
    · have HB:=Lib.hid hb;clear hb
      go_wp2_with fail
      go_round
      case rel=>exact ⟨j+1,by omega,by go_num,Lib.hid (by rw [HJ.out,HSP.out,HB.out];simp;omega)⟩
      case measure=>simp [intOf];omega
  · go_wp2_with fail
    go_ret
    refine ⟨Mi ?_,rfl⟩
    rw [HJ.out,List.drop_eq_nil_of_le (by omega)];simp [GB];omega
theorem R5 (s:List UInt8) (n:Int) (hn:n.toNat=min 2 s.length):(⟨s.toArray⟩:ByteArray).extract 0 n.toNat=⟨(s.take 2).toArray⟩:=by
 apply ByteArray.ext
 rw [hn];simp only [ByteArray.data_extract]
 apply Array.ext'
 simp only [List.extract_toArray,List.extract_eq_take_drop,Nat.sub_zero,List.drop_zero]
 rcases Nat.le_total 2 s.length with h|h
 · rw [Nat.min_eq_left h]
 · rw [Nat.min_eq_right h,List.take_of_length_le h,List.take_length]
theorem Ix : ∀(l:List UInt8) (c:UInt8),-1≤Lib.indexByte l c
 | [],c=>by simp [Lib.indexByte]
 | b::l,c=>by
  have:=Ix l c
  unfold Lib.indexByte
  split
  · omega
  · split<;>omega
theorem Fk : ∀(l:List UInt8) (c:UInt8),(0≤Lib.indexByte l c)↔l.contains c=true
 | [],c=>by simp [Lib.indexByte]
 | b::l,c=>by
  have ih:=Fk l c;have hg:=Ix l c
  unfold Lib.indexByte
  rw [List.contains_cons]
  by_cases hb:b=c
  · simp [hb]
  · have hb' : ¬c=b:=fun e=>hb e.symm
    simp only [beq_iff_eq,hb,hb',if_false,Bool.or_eq_true,false_or,←ih]
    split<;>omega
theorem Vf (c:UInt8) (r:List UInt8) (w:World) (hs:(c::r).length≤9223372036854775807) :
 Calls prog 99 #[str (c::r)] w fun e w'=>e = .returned (.int .i64 (GX (c::r)))∧w=w':=by
 simp only [List.length_cons] at hs;have hx:=R5 (c::r) (min 2 ((r.length:Int)+1)) (by simp only [List.length_cons];omega)
 have hsl:GX (c::r)=if List.isPrefixOf [60,61,62] (c::r) then 3 else if pairs.contains ((c::r).take 2) then 2 else if singles.contains c then 1 else 0:=rfl
 have HSL:=Lib.hid hsl;clear hsl
 generalize (c::r).take 2=t at *
 cases h3:List.isPrefixOf [60,61,62] (c::r)
 · have H3:=Lib.hid h3;clear h3
   cases hp:pairs.contains t
   · have HP:=Lib.hid hp
     simp only [pairs,List.contains_cons,List.contains_nil,Bool.or_eq_false_iff,Bool.or_false] at hp;obtain ⟨p0,p1,p2,p3,p4,p5,p6,p7,p8,p9⟩:=hp
     go_enter func99,ntmps99
     go_wp2_with (go_at_call 121;refine (Tryz.strings_HasPrefix _ _ _).mono ?_;rintro e w' ⟨rfl,rfl⟩;rw [show Lib.hasPrefix (⟨(c::r).toArray⟩:ByteArray).data.toList (⟨#[60,61,62]⟩:ByteArray).data.toList=false from H3.out])
     refine (Tryz.strings_IndexByte _ _ _).mono ?_;rintro e w2 ⟨rfl,rfl⟩
     have e0:(((c.toNat:Nat):Int)).toNat.toUInt8=c:=by simp
     have e1 : ∀h,(((((⟨(c::r).toArray⟩:ByteArray)[0]'h).toNat:Nat):Int)).toNat.toUInt8=c:=fun _=>e0
     rw [e1];have hi:=Fk singles c;rw [show Lib.indexByte (⟨#[43,45,42,47,37,38,124,94,33,61,60,62,40,41,123,125,91,93,59,44]⟩:ByteArray).data.toList c=Lib.indexByte singles c from rfl]
     generalize Lib.indexByte singles c=ix at *
     cases hc:singles.contains c
     · have hlt:ix<0:=by rw [hc] at hi;simp at hi;omega
       have HC:=Lib.hid hc;clear hc hi
       simp only
       go_wp2_with fail
       go_ret
       rw [HSL.out,H3.out,HP.out,HC.out];exact ⟨rfl,rfl⟩
     · have hge:0≤ix:=hi.2 hc
       have HC:=Lib.hid hc;clear hc hi
       simp only
       go_wp2_with fail
       go_ret
       rw [HSL.out,H3.out,HP.out,HC.out];exact ⟨rfl,rfl⟩
   · go_enter func99,ntmps99
     go_wp2_with (go_at_call 121;refine (Tryz.strings_HasPrefix _ _ _).mono ?_;rintro e w' ⟨rfl,rfl⟩;rw [show Lib.hasPrefix (⟨(c::r).toArray⟩:ByteArray).data.toList (⟨#[60,61,62]⟩:ByteArray).data.toList=false from H3.out])
     all_goals first|(go_ret;rw [HSL.out,H3.out,hp];exact ⟨rfl,rfl⟩)|(exfalso;simp_all [pairs];done)
 · have H3:=Lib.hid h3;clear h3
   go_enter func99,ntmps99
   go_wp2_with (go_at_call 121;refine (Tryz.strings_HasPrefix _ _ _).mono ?_;rintro e w' ⟨rfl,rfl⟩;rw [show Lib.hasPrefix (⟨(c::r).toArray⟩:ByteArray).data.toList (⟨#[60,61,62]⟩:ByteArray).data.toList=true from H3.out])
   go_ret
   rw [HSL.out,H3.out];exact ⟨rfl,rfl⟩
def CB:List (List UInt8)→Nat→List MapEntry
 | [],_=>[]
 | k::r,i=>{ key:=str k,val:=.bool true,born:=i }::CB r (i+1)
def Ek (ks:List (List UInt8)):Obj:=.map (CB ks 0).toArray ks.length
theorem Kc (ks:List (List UInt8)) (k:List UInt8) : ∀i,CB (ks++[k]) i=CB ks i++[{ key:=str k,val:=.bool true,born:=i+ks.length }]:=by
 induction ks with
 | nil=>intro i;simp [CB]
 | cons x r ih=>intro i;simp [CB,ih,Nat.add_assoc,Nat.add_comm 1]
theorem Vg (b:ByteArray) (x:List UInt8):(b==(⟨x.toArray⟩:ByteArray))=(b.data.toList==x):=by
 show (b.data==x.toArray)=_
 rw [Bool.eq_iff_iff];simp
 constructor
 · intro h;rw [h]
 · intro h;rw [←h]
theorem Hw (b:ByteArray) (ks:List (List UInt8)) : ∀i j,(ks.contains b.data.toList=false→Instr.findNow .string (.string b) (CB ks i) j=some none) ∧
 (ks.contains b.data.toList=true → ∃n,Instr.findNow .string (.string b) (CB ks i) j=some (some (n,.bool true))):=by
 induction ks with
 | nil=>intro i j;simp [CB,Instr.findNow]
 | cons x r ih=>
  intro i j;simp only [CB,Instr.findNow,Instr.sameNow,Vg,List.contains_cons]
  cases h:b.data.toList==x
  · simpa using ih (i+1) (j+1)
  · simp
theorem R6 (h:Array Obj) (a b:Obj):(h.push a).setIfInBounds h.size b=h.push b:=by
 apply Array.ext'
 simp
theorem Kd:prog.underlying 138=some (.map 9 4):=by kernel_rfl
theorem Fl:prog.underlying 9=some .string:=by kernel_rfl
theorem OC (w:World) (ks:List (List UInt8)) (b:ByteArray) (h:ks.contains b.data.toList=false) :
 (Instr.mapUpdate 138 (.map (some w.heap.size)) (.string b) (.bool true)).run prog (w.alloc (Ek ks)) = .ok () (w.alloc (Ek (ks++[b.data.toList]))):=by
 have hb:(w.alloc (Ek ks)).heap[w.heap.size]? = some (.map (CB ks 0).toArray ks.length):=by show (w.heap.push (Ek ks))[w.heap.size]? = _;simp [Ek]
 have hf:Instr.findNow .string (.string b) (CB ks 0) 0=some none:=(Hw b ks 0 0).1 h;have hc:(Instr.checkKey false 10000 9 (.string b)).run prog (w.alloc (Ek ks)) = .ok () (w.alloc (Ek ks)):=MapKept.run_checkKey (k:=.string b) Fl (by simp [MapKept.IsKey]) false 9999
 simp [Instr.mapUpdate,AG Kd,MapKept.run_getObj_map hb,hc,MapKept.run_findKey Fl hf,MapKept.run_setObj_map _ hb,Result.andThen]
 show ({ w with heap:=(w.heap.push (Ek ks)).setIfInBounds w.heap.size _ }:World)={ w with heap:=w.heap.push _ }
 rw [R6]
 unfold Ek
 rw [Kc]
 simp
theorem M4 (w:World) (ks:List (List UInt8)) (b:ByteArray) :
 (Instr.lookup 138 (.map (some w.heap.size)) (.string b) false).run prog (w.alloc (Ek ks)) = .ok (.bool (ks.contains b.data.toList)) (w.alloc (Ek ks)):=by
 have hb:(w.alloc (Ek ks)).heap[w.heap.size]? = some (.map (CB ks 0).toArray ks.length):=by show (w.heap.push (Ek ks))[w.heap.size]? = _;simp [Ek]
 have hc : ∀q,(Instr.checkKey q 10000 9 (.string b)).run prog (w.alloc (Ek ks)) = .ok () (w.alloc (Ek ks)):=fun q=>MapKept.run_checkKey (k:=.string b) Fl (by simp [MapKept.IsKey]) q 9999
 have hz:(zeroValue 4).run prog (w.alloc (Ek ks)) = .ok (.bool false) (w.alloc (Ek ks)):=by kernel_rfl
 cases hk:ks.contains b.data.toList
 · have hf:=(Hw b ks 0 0).1 hk
   simp [Instr.lookup,AG Kd,MapKept.run_getObj_map hb,hc,MapKept.run_findKey Fl hf,hz,Result.andThen]
 · obtain ⟨n,hf⟩:=(Hw b ks 0 0).2 hk
   simp [Instr.lookup,AG Kd,MapKept.run_getObj_map hb,hc,MapKept.run_findKey Fl hf,Result.andThen]
theorem M5 (w:World):(Instr.makeMap 138 none).run prog w = .ok (.map (some w.heap.size)) (w.alloc (Ek [])):=run_makeMap _ w
theorem M6 (s:List UInt8) (h:FA s=true):2≤s.length∧s.length≤7:=by
 have key : ∀k∈keywords,2≤k.length∧k.length≤7:=by decide
 exact key s (by simpa [FA] using h)
theorem Qw (s:List UInt8) (w:World) (hs:s.length≤9223372036854775807) :
 Calls prog 52 #[str s] w fun e w'=>e = .returned (.bool (FA s))∧Ext w w':=by
 by_cases h2:s.length<2∨7<s.length
 · have hk:FA s=false:=by
    cases h:FA s
    · rfl
    · have:=M6 s h;omega
   have HK:=Lib.hid hk;clear hk
   by_cases h3:s.length<2
   · have d1:decide ((s.length:Int)<2)=true:=by simp;omega
     clear h2
     go_enter func52,ntmps52
     go_wp2_with fail
     go_ret
     rw [HK.out];exact ⟨rfl,Ext.refl _⟩
   · have d1:decide ((s.length:Int)<2)=false:=by simp;omega
     have d2:decide ((7:Int)<s.length)=true:=by simp;omega
     clear h2
     go_enter func52,ntmps52
     go_wp2_with fail
     go_ret
     rw [HK.out];exact ⟨rfl,Ext.refl _⟩
 · have d1:decide ((s.length:Int)<2)=false:=by simp;omega
   have d2:decide ((7:Int)<s.length)=false:=by simp;omega
   have r1:=M5;have r2:=OC w;have r3:=M4 w
   go_enter func52,ntmps52
   go_wp2_with fail
   go_ret
   exact ⟨AY (by simp [FA,keywords]),(by refine Ext.alloc ?_ _;exact Ext.refl _)⟩
theorem R7 : ∀args w,(callFunc 96 args).run prog w = .ok (.enter 96 args) w:=enters_of func96 (by kernel_rfl) rfl
theorem R8 : ∀args w,(callFunc 97 args).run prog w = .ok (.enter 97 args) w:=enters_of func97 (by kernel_rfl) rfl
theorem Qx : ∀args w,(callFunc 95 args).run prog w = .ok (.enter 95 args) w:=enters_of func95 (by kernel_rfl) rfl
theorem Qz : ∀args w,(callFunc 98 args).run prog w = .ok (.enter 98 args) w:=enters_of func98 (by kernel_rfl) rfl
theorem PJ (c:UInt8) (r:List UInt8) (w:World) (hs:(c::r).length≤9223372036854775807) :
 Calls prog 51 #[str (c::r)] w fun e w'=>e = .returned (.tuple #[.int .u8 (Bf (c::r)).1,.int .i64 (Bf (c::r)).2])∧w=w':=by
 have hf:Bf (c::r)=if Fg c then (1,GB Io (c::r)) else if C8 c then (2,GB C8 (c::r)) else if Hc c then (4,GB Hc (c::r)) else if c=35 then (5,GB M0 (c::r)) else (3,GX (c::r)):=rfl
 have HF:=Lib.hid hf;clear hf
 have HS:=Lib.hid hs;simp only [List.length_cons] at hs
 go_enter func51,ntmps51
 go_wp2_with fail
 refine (M3 c _).mono ?_;rintro e w1 ⟨rfl,rfl⟩
 cases hl:Fg c
 · have HL:=Lib.hid hl;clear hl
   simp only
   go_wp2_with fail
   refine (Mj c _).mono ?_;rintro e w1 ⟨rfl,rfl⟩
   cases hd:C8 c
   · have HD:=Lib.hid hd;clear hd
     simp only
     go_wp2_with fail
     refine (PI c _).mono ?_;rintro e w1 ⟨rfl,rfl⟩
     cases hb:Hc c
     · have HB:=Lib.hid hb;clear hb
       simp only
       by_cases h35:c=35
       · have H35:=Lib.hid h35
         have e35:(({ data:=(c::r).toArray }:ByteArray)[0]'(by simp [ByteArray.size])).toNat=35:=by show c.toNat=35;rw [h35];rfl
         clear h35
         go_wp2_with fail
         refine (Mk 98 M0 TM Qz _ _ HS.out).mono ?_;rintro e w1 ⟨rfl,rfl⟩;simp only
         go_wp2_with fail
         go_ret2
         rw [HF.out,HL.out,HD.out,HB.out,if_pos H35.out];exact ⟨rfl,rfl⟩
       · have H35:=Lib.hid h35
         have e35:((({ data:=(c::r).toArray }:ByteArray)[0]'(by simp [ByteArray.size])).toNat:Int)≠35:=by
          show (c.toNat:Int)≠35
          intro h;apply h35;apply UInt8.toNat_inj.1;show c.toNat=35;omega
         clear h35
         go_wp2_with fail
         refine (Vf c r _ HS.out).mono ?_;rintro e w1 ⟨rfl,rfl⟩;simp only
         go_wp2_with fail
         go_ret2
         rw [HF.out,HL.out,HD.out,HB.out,if_neg H35.out];exact ⟨rfl,rfl⟩
     · have HB:=Lib.hid hb;clear hb
       simp only
       go_wp2_with fail
       refine (Mk 97 Hc PI R8 _ _ HS.out).mono ?_;rintro e w1 ⟨rfl,rfl⟩;simp only
       go_wp2_with fail
       go_ret2
       rw [HF.out,HL.out,HD.out,HB.out];exact ⟨rfl,rfl⟩
   · have HD:=Lib.hid hd;clear hd
     simp only
     go_wp2_with fail
     refine (Mk 96 C8 Mj R7 _ _ HS.out).mono ?_;rintro e w1 ⟨rfl,rfl⟩;simp only
     go_wp2_with fail
     go_ret2
     rw [HF.out,HL.out,HD.out];exact ⟨rfl,rfl⟩
 · have HL:=Lib.hid hl;clear hl
   simp only
   go_wp2_with fail
   refine (Mk 95 Io Qv Qx _ _ HS.out).mono ?_;rintro e w1 ⟨rfl,rfl⟩;simp only
   go_wp2_with fail
   go_ret2
   rw [HF.out,HL.out];exact ⟨rfl,rfl⟩
theorem Hx (s:List UInt8) (w:World) (hs:s.length≤9223372036854775807) :
 Calls prog 24 #[str s] w fun e w'=>e = .returned (.bool (Cu s))∧Ext w w':=by
 cases s with
 | nil=>
  go_enter func24,ntmps24
  go_wp2_with fail
  go_ret
  exact ⟨rfl,Ext.refl _⟩
 | cons c r=>
  have hn:Cu (c::r)=(decide ((c::r).length≤16)&&((Bf (c::r)).1==1)&&((Bf (c::r)).2==(c::r).length) && !FA (c::r)):=by simp [Cu]
  have HN:=Lib.hid hn;clear hn
  have HS:=Lib.hid hs;simp only [List.length_cons] at hs
  by_cases h16:16<(c::r).length
  · simp only [List.length_cons] at h16
    have d1:decide ((16:Int)<(r.length:Int)+1)=true:=by simp;omega
    have H16:=Lib.hid h16;clear h16
    go_enter func24,ntmps24
    go_wp2_with fail
    go_ret
    rw [HN.out]
    exact ⟨AY (by have:=H16.out;simp;omega),Ext.refl _⟩
  · simp only [List.length_cons] at h16
    have d1:decide ((16:Int)<(r.length:Int)+1)=false:=by simp;omega
    go_enter func24,ntmps24
    go_wp2_with fail
    refine (PJ c r _ HS.out).mono ?_;rintro e w1 ⟨rfl,rfl⟩
    generalize Bf (c::r)=ft at *
    obtain ⟨k,n⟩:=ft
    by_cases hk:k=1
    · by_cases hl:n=(c::r).length
      · subst hk hl
        simp only [List.length_cons]
        go_wp2_with fail
        refine (Qw _ _ HS.out).mono ?_;rintro e w2 ⟨rfl,hx⟩;simp only
        go_wp2_with fail
        go_ret
        rw [HN.out]
        exact ⟨AY (by simp;omega),hx⟩
      · subst hk
        have dl:((n:Int)==(r.length:Int)+1)=false:=by simp only [List.length_cons] at hl;rw [beq_eq_false_iff_ne];omega
        have HL:=Lib.hid hl;clear hl
        simp only
        go_wp2_with fail
        go_ret
        rw [HN.out]
        exact ⟨AY (by have:=HL.out;simp at this ⊢;simp [this]),Ext.refl _⟩
    · have dk:((k:Int)==1)=false:=by rw [beq_eq_false_iff_ne];omega
      have HK:=Lib.hid hk;clear hk
      simp only
      go_wp2_with fail
      go_ret
      rw [HN.out]
      exact ⟨AY (by have:=HK.out;simp [this]),Ext.refl _⟩
theorem Gj (k n:Int) (s:List UInt8) (a:Option Addr) (l c:Nat) (w:World) :
 Calls prog 85 #[.agg #[.int .u8 k,.int .i64 n,str s,.slice a l c]] w fun e w'=>e = .returned (.bool (plain n s))∧Ext w w':=by
 go_enter func85,ntmps85
 go_wp2_with fail
 all_goals go_ret
 all_goals exact ⟨AY (by unfold plain;simp [*]),(by repeat (first|exact Ext.refl _|assumption|refine Ext.alloc ?_ _|refine Ext.drew ?_|refine Ext.trans ?_ ‹_›))⟩
theorem G0 (k n:Int) (s:List UInt8) (a:Option Addr) (l c:Nat) (w:World) (hs:s.length≤9223372036854775807) :
 Calls prog 89 #[.agg #[.int .u8 k,.int .i64 n,str s,.slice a l c]] w fun e w'=>e = .returned (.bool (CD n s))∧Ext w w':=by
 by_cases h0:n=0
 · subst h0
   go_enter func89,ntmps89
   go_wp2_with (go_at_call 24;refine (Hx _ _ hs).mono ?_;rintro e w2 ⟨rfl,hx⟩)
   go_ret
   exact ⟨AY (by simp [CD]),(by refine Ext.trans ?_ ‹_›;refine Ext.alloc ?_ _;exact Ext.refl _)⟩
 · have d0:(n==0)=false:=by simp [h0]
   go_enter func89,ntmps89
   go_wp2_with fail
   go_ret
   exact ⟨AY (by simp [CD,h0]),(by refine Ext.alloc ?_ _;exact Ext.refl _)⟩
def El (S:Nat→Prop) (f:FuncId) (p:Nd→Bool) (t:Nd):Prop:=
 ∀(a:Option Addr) (c:Nat) (w:World),t.sits S w a→Calls prog f #[t.val a c] w fun e w'=>e = .returned (.bool (p t))∧Ext w w'
def Gk (f:FuncId):Prop:= ∀args w,(callFunc f args).run prog w = .ok (.enter f args) w
theorem PK (f:FuncId) (p:Nd→Bool) (he:Gk f) (l:List Nd) (a:Option Addr) (c:Nat) (S:Nat→Prop) (w:World) (hl:l.length≤9223372036854775807) (hs:rowSits S w l a) (ht : ∀t∈l,El S f p t) :
 Calls prog 90 #[.slice a l.length c,.func (.func f) #[] #[]] w fun e w'=>e = .returned (.bool (l.all p))∧Ext w w':=by
 have HT:=Lib.hid ht;clear ht
 unfold Gk at he
 go_enter func90,ntmps90
 go_wp2_with fail
 go_loopw [9] (fun i wr=> ∃j:Nat,j≤l.length∧i = .int .i64 j∧Hid (l.all p=(l.drop j).all p)∧Ext w wr) (fun i _=>l.length-(intOf i).toNat)
 case atStart=>exact ⟨0,Nat.zero_le _,rfl,Lib.hid rfl,Ext.refl _⟩
 case round=>
  obtain ⟨j,hj,rfl,HJ,hx⟩:=hrel
  by_cases hlt:j<l.length
  · have hg:l[j]? = some l[j]:=List.getElem?_eq_getElem hlt
    have hmem:l[j]∈l:=List.getElem_mem hlt;have hdrop:=List.drop_eq_getElem_cons hlt
    generalize l[j]=t at *
    obtain ⟨b,o,a',c',rfl,hSb,g0,g1,g2,g3,hsk⟩:=EK (hs.ext hx) hg
    have HG:=Lib.hid hg;clear hg
    have hall:l.all p=(p t&&(l.drop (j+1)).all p):=by rw [HJ.out,hdrop,List.all_cons]
    have HA:=Lib.hid hall;clear hdrop hall
    go_wp2_with fail
    refine (HT.out t hmem a' c' _ (hsk.ext ((Ext.refl _).alloc _))).mono ?_;rintro e w1 ⟨rfl,hx1⟩
    cases hp:p t
    · have HP:=Lib.hid hp;clear hp
      simp only
      go_wp2_with fail
      go_ret
      rw [HA.out,HP.out]
      exact ⟨rfl,(by refine Ext.trans ?_ ‹_›;refine Ext.alloc ?_ _;assumption)⟩
    · have HP:=Lib.hid hp;clear hp
      simp only
      go_wp2_with fail
      go_roundw
      case rel=>exact ⟨j+1,by omega,by go_num,Lib.hid (by rw [HA.out,HP.out];simp),(by refine Ext.trans ?_ ‹_›;refine Ext.alloc ?_ _;assumption)⟩
      case measure=>simp [intOf];omega
  · go_wp2_with fail
    go_ret
    rw [HJ.out,List.drop_eq_nil_of_le (by omega)]
    exact ⟨rfl,hx⟩
def Cg:List Nd→List (FuncId×(Nd→Bool))→Bool
 | [],[]=>true
 | t::r,f::fs=>f.2 t&&Cg r fs
 | _,_=>false
theorem Ke : ∀(l:List Nd) (fs:List (FuncId×(Nd→Bool))),l.length≠fs.length→Cg l fs=false
 | [],[],h=>absurd rfl h
 | [],_::_,_=>rfl
 | _::_,[],_=>rfl
 | t::r,f::fs,h=>by simp only [Cg];rw [Ke r fs (by simpa using h)];simp
theorem FK (k n:Int) (s:List UInt8) (l:List Nd) (a:Option Addr) (c:Nat) (fs:List (FuncId×(Nd→Bool))) (tb tc:Nat) (S:Nat→Prop) (w:World)
 (hl:l.length≤9223372036854775807) (hfl:fs.length≤100) (hs:rowSits S w l a)
 (htb : ∀i f,fs[i]? = some f→w.cell? ⟨tb,i,none⟩=some (.func (.func f.1) #[] #[])) (he : ∀f∈fs,Gk f.1) (ht : ∀f∈fs,∀t∈l,El S f.1 f.2 t) :
 Calls prog 86 #[.agg #[.int .u8 k,.int .i64 n,str s,.slice a l.length c],.slice (some ⟨tb,0,none⟩) fs.length tc] w fun e w'=>e = .returned (.bool (Cg l fs))∧Ext w w':=by
 have HT:=Lib.hid ht;clear ht
 have HE:=Lib.hid he;clear he
 have HB:=Lib.hid htb;clear htb
 by_cases hlen:l.length=fs.length
 · have dn:((l.length:Int) != (fs.length:Int))=false:=by rw [hlen];simp
   have HL:=Lib.hid hlen
   have hlen1:l.length≤fs.length:=by omega
   have hlen2:fs.length≤l.length:=by omega
   clear hlen
   go_enter func86,ntmps86
   go_wp2_with fail
   go_loopw [15] (fun i wr=> ∃j:Nat,j≤fs.length∧i = .int .i64 j∧Hid (Cg l fs=Cg (l.drop j) (fs.drop j))∧Ext (w.alloc (.cells #[.int .u8 k,.int .i64 n,str s,.slice a l.length c] 26)) wr) (fun i _=>fs.length-(intOf i).toNat)
   case atStart=>exact ⟨0,Nat.zero_le _,rfl,Lib.hid rfl,Ext.refl _⟩
   case round=>
    obtain ⟨j,hj,rfl,HJ,hx⟩:=hrel;have hcs:=hx.cells
    by_cases hlt:j<fs.length
    · have hlt':j<l.length:=by omega
      have hg:l[j]? = some l[j]:=List.getElem?_eq_getElem hlt';have hmem:l[j]∈l:=List.getElem_mem hlt';have hdrop:=List.drop_eq_getElem_cons hlt';have hgf:fs[j]? = some fs[j]:=List.getElem?_eq_getElem hlt;have hmemf:fs[j]∈fs:=List.getElem_mem hlt;have hdropf:=List.drop_eq_getElem_cons hlt
      generalize l[j]=t at *
      generalize fs[j]=f at *
      have hxx:Ext w wr:=Ext.trans ((Ext.refl _).alloc _) hx;obtain ⟨b,o,a',c',rfl,hSb,g0,g1,g2,g3,hsk⟩:=EK (hs.ext hxx) hg
      have HG:=Lib.hid hg;clear hg
      have ht0:=hxx.keep (HB.out j f hgf)
      have HGF:=Lib.hid hgf;clear hgf
      have hall:Cg l fs=(f.2 t&&Cg (l.drop (j+1)) (fs.drop (j+1))):=by rw [HJ.out,hdrop,hdropf];rfl
      have HA:=Lib.hid hall;clear hdrop hall hdropf
      have hen:=HE.out f hmemf
      unfold Gk at hen
      go_wp2_with fail
      refine (HT.out f hmemf t hmem a' c' _ hsk).mono ?_;rintro e w1 ⟨rfl,hx1⟩
      cases hp:f.2 t
      · have HP:=Lib.hid hp;clear hp
        simp only
        go_wp2_with fail
        go_ret
        rw [HA.out,HP.out]
        exact ⟨rfl,(by refine Ext.trans ?_ ‹_›;assumption)⟩
      · have HP:=Lib.hid hp;clear hp
        simp only
        go_wp2_with fail
        go_roundw
        case rel=>exact ⟨j+1,by omega,by go_num,Lib.hid (by rw [HA.out,HP.out];simp),(by refine Ext.trans ?_ ‹_›;assumption)⟩
        case measure=>simp [intOf];omega
    · go_wp2_with fail
      go_ret
      rw [HJ.out,List.drop_eq_nil_of_le (by omega),List.drop_eq_nil_of_le (by omega)]
      exact ⟨rfl,(by refine Ext.trans ?_ ‹_›;refine Ext.alloc ?_ _;exact Ext.refl _)⟩
 · have dn:((l.length:Int) != (fs.length:Int))=true:=by rw [bne_iff_ne];omega
   have hk:=Ke l fs hlen
   have HK:=Lib.hid hk;clear hk hlen
   go_enter func86,ntmps86
   go_wp2_with fail
   go_ret
   rw [HK.out]
   exact ⟨rfl,(by refine Ext.alloc ?_ _;exact Ext.refl _)⟩
theorem R9 {α:Type} {Q:Nat→α→Prop} {x:α} (h:Q 0 x) : ∀i f,[x][i]? = some f→Q i f:=by
 intro i f hf
 rcases i with _|i
 · simp at hf;exact hf▸h
 · simp at hf
theorem Vh {α:Type} {Q:Nat→α→Prop} {x y:α} (h:Q 0 x) (h1:Q 1 y) : ∀i f,[x,y][i]? = some f→Q i f:=by
 intro i f hf
 rcases i with _|_|i
 · simp at hf;exact hf▸h
 · simp at hf;exact hf▸h1
 · simp at hf
theorem WG {α:Type} {Q:Nat→α→Prop} {x y z:α} (h:Q 0 x) (h1:Q 1 y) (h2:Q 2 z) : ∀i f,[x,y,z][i]? = some f→Q i f:=by
 intro i f hf
 rcases i with _|_|_|i
 · simp at hf;exact hf▸h
 · simp at hf;exact hf▸h1
 · simp at hf;exact hf▸h2
 · simp at hf
theorem WH {α:Type} {Q:Nat→α→Prop} {x y z u:α} (h:Q 0 x) (h1:Q 1 y) (h2:Q 2 z) (h3:Q 3 u) : ∀i f,[x,y,z,u][i]? = some f→Q i f:=by
 intro i f hf
 rcases i with _|_|_|_|i
 · simp at hf;exact hf▸h
 · simp at hf;exact hf▸h1
 · simp at hf;exact hf▸h2
 · simp at hf;exact hf▸h3
 · simp at hf
theorem Lj {α:Type} {Q:α→Prop} {x:α} (h:Q x) : ∀f∈[x],Q f:=by intro f hf;simp at hf;exact hf▸h
theorem QA {α:Type} {Q:α→Prop} {x y:α} (h:Q x) (h1:Q y) : ∀f∈[x,y],Q f:=by
 intro f hf;simp at hf;rcases hf with rfl|rfl<;>assumption
theorem VU {α:Type} {Q:α→Prop} {x y z:α} (h:Q x) (h1:Q y) (h2:Q z) : ∀f∈[x,y,z],Q f:=by
 intro f hf;simp at hf;rcases hf with rfl|rfl|rfl<;>assumption
theorem VV {α:Type} {Q:α→Prop} {x y z u:α} (h:Q x) (h1:Q y) (h2:Q z) (h3:Q u) : ∀f∈[x,y,z,u],Q f:=by
 intro f hf;simp at hf;rcases hf with rfl|rfl|rfl|rfl<;>assumption
theorem DK:Gk 88:=enters_of func88 (by kernel_rfl) rfl
theorem M7 (n:Int) (s:List UInt8) (l:List Nd):(Nd.mk 1 n s l).isExpr=(decide (0≤n)&&s.isEmpty&&l.isEmpty):=by rw [Nd.isExpr.eq_def];simp
theorem M8 (k n:Int) (s:List UInt8) (l:List Nd) (h:k=2∨k=4∨k=5):(Nd.mk k n s l).isExpr=(CD n s&&l.isEmpty):=by
 rcases h with rfl|rfl|rfl<;>rw [Nd.isExpr.eq_def]<;>simp
theorem M9 (f:FuncId) (n:Int) (s:List UInt8) (l:List Nd):(Nd.mk 3 n s l).isExpr=(CD n s&&Cg l [(f,Nd.isExpr)]):=by
 rcases l with _|⟨x,_|⟨y,l⟩⟩<;>rw [Nd.isExpr.eq_def]<;>simp [Cg]
theorem QB (f:FuncId) (k n:Int) (s:List UInt8) (l:List Nd) (h:k=6∨k=7):(Nd.mk k n s l).isExpr=(plain n s&&Cg l [(f,Nd.isExpr)]):=by
 rcases l with _|⟨x,_|⟨y,l⟩⟩<;>rcases h with rfl|rfl<;>rw [Nd.isExpr.eq_def]<;>simp [Cg]
theorem OD (f:FuncId) (k n:Int) (s:List UInt8) (l:List Nd) (h:8≤k) (h':k≤23):(Nd.mk k n s l).isExpr=(plain n s&&Cg l [(f,Nd.isExpr),(f,Nd.isExpr)]):=by
 have e1 : ¬k=1:=by omega
 have e2 : ¬(k=2∨k=4∨k=5):=by omega
 have e3 : ¬k=3:=by omega
 have e4 : ¬(k=6∨k=7):=by omega
 rcases l with _|⟨x,_|⟨y,_|⟨z,l⟩⟩⟩<;>rw [Nd.isExpr.eq_def]<;>simp [Cg,e1,e2,e3,e4,h,h']
theorem Na (k n:Int) (s:List UInt8) (l:List Nd) (h:k<1∨23<k):(Nd.mk k n s l).isExpr=false:=by
 have e1 : ¬k=1:=by omega
 have e2 : ¬(k=2∨k=4∨k=5):=by omega
 have e3 : ¬k=3:=by omega
 have e4 : ¬(k=6∨k=7):=by omega
 have e5 : ¬(8≤k∧k≤23):=by omega
 rw [Nd.isExpr.eq_def];simp [e1,e2,e3,e4,e5]
theorem Sa (S:Nat→Prop) (N:Nat) : ∀t:Nd,t.size<N→t.wf→El S 88 Nd.isExpr t:=by
 induction N with
 | zero=>intro t h;omega
 | succ N ih=>
  rintro ⟨k,n,s,l⟩ hN hwf a c w hs;simp only [Nd.wf,Nd.size,Nd.sits,Nd.kind,Nd.num,Nd.name,Nd.kids,Nd.val] at *;obtain ⟨hk0,hk1,hn0,hn1,hsl,hll,hrw⟩:=hwf
  have hkid : ∀t∈l,El S 88 Nd.isExpr t:=fun t ht=>ih t (by have:=Dw ht;omega) (Ce hrw t ht)
  have HKID:=Lib.hid hkid;clear hkid ih hrw
  have HSL:=Lib.hid hsl;clear hsl
  by_cases c1:k=1
  · subst c1
    have hr:=M7 n s l
    have HR:=Lib.hid hr;clear hr
    go_enter func88,ntmps88
    go_wp2_with fail
    all_goals go_ret
    all_goals rw [HR.out]
    all_goals exact ⟨AY (by rw [Bool.eq_iff_iff];first|(simp [*];done)|(simp [*];intros;omega)),(by repeat (first|exact Ext.refl _|assumption|refine Ext.alloc ?_ _|refine Ext.drew ?_|refine Ext.trans ?_ ‹_›))⟩
  by_cases c2:k=2∨k=4∨k=5
  · have hr:=M8 k n s l c2
    have HR:=Lib.hid hr;clear hr
    cases hnm:CD n s
    all_goals have HNM:=Lib.hid hnm;clear hnm
    all_goals rcases c2 with rfl|rfl|rfl
    all_goals go_enter func88,ntmps88
    all_goals go_wp2_with (go_at_call 89;refine (G0 _ _ _ _ _ _ _ HSL.out).mono ?_;rintro e w1 ⟨rfl,hx1⟩;have hc1:=hx1.cells;rw [HNM.out])
    all_goals go_ret
    all_goals rw [HR.out,HNM.out]
    all_goals exact ⟨AY (by first|rfl|(rw [Bool.eq_iff_iff];simp)),(by repeat (first|exact Ext.refl _|assumption|refine Ext.alloc ?_ _|refine Ext.drew ?_|refine Ext.trans ?_ ‹_›))⟩
  by_cases c3:k=3
  · subst c3
    have hr:=M9 88 n s l
    have HR:=Lib.hid hr;clear hr
    cases hnm:CD n s
    all_goals have HNM:=Lib.hid hnm;clear hnm
    all_goals go_enter func88,ntmps88
    all_goals go_wp2_with (first|(go_at_call 89;refine (G0 _ _ _ _ _ _ _ HSL.out).mono ?_;rintro e w1 ⟨rfl,hx1⟩;have hc1:=hx1.cells;rw [HNM.out])|(go_at_call 86;refine (FK _ _ _ l a c [(88,Nd.isExpr)] _ _ S _ hll (by decide) (hs.ext (by refine Ext.alloc ?_ _;refine Ext.trans ?_ ‹_›;refine Ext.alloc ?_ _;exact Ext.refl _)) (R9 (by go_simp)) (Lj DK) (Lj HKID.out)).mono ?_;rintro e w2 ⟨rfl,hx2⟩))
    all_goals go_ret
    all_goals rw [HR.out,HNM.out]
    all_goals exact ⟨AY (by simp),(by repeat (first|exact Ext.refl _|assumption|refine Ext.alloc ?_ _|refine Ext.drew ?_|refine Ext.trans ?_ ‹_›))⟩
  by_cases c4:k=6∨k=7
  · have hr:=QB 88 k n s l c4
    have HR:=Lib.hid hr;clear hr
    cases hnm:plain n s
    all_goals have HNM:=Lib.hid hnm;clear hnm
    all_goals rcases c4 with rfl|rfl
    all_goals go_enter func88,ntmps88
    all_goals go_wp2_with (first|(go_at_call 85;refine (Gj _ _ _ _ _ _ _).mono ?_;rintro e w1 ⟨rfl,hx1⟩;have hc1:=hx1.cells;rw [HNM.out])|(go_at_call 86;refine (FK _ _ _ l a c [(88,Nd.isExpr)] _ _ S _ hll (by decide) (hs.ext (by repeat (first|exact Ext.refl _|assumption|refine Ext.alloc ?_ _|refine Ext.drew ?_|refine Ext.trans ?_ ‹_›))) (R9 (by go_simp)) (Lj DK) (Lj HKID.out)).mono ?_;rintro e w2 ⟨rfl,hx2⟩))
    all_goals go_ret
    all_goals rw [HR.out,HNM.out]
    all_goals exact ⟨AY (by simp),(by repeat (first|exact Ext.refl _|assumption|refine Ext.alloc ?_ _|refine Ext.drew ?_|refine Ext.trans ?_ ‹_›))⟩
  by_cases c5:8≤k∧k≤23
  · obtain ⟨c5a,c5b⟩:=c5
    have d1:(k==1)=false:=by rw [beq_eq_false_iff_ne];omega
    have d2:(k==2)=false:=by rw [beq_eq_false_iff_ne];omega
    have d3:(k==3)=false:=by rw [beq_eq_false_iff_ne];omega
    have d4:(k==4)=false:=by rw [beq_eq_false_iff_ne];omega
    have d5:(k==5)=false:=by rw [beq_eq_false_iff_ne];omega
    have d6:(k==6)=false:=by rw [beq_eq_false_iff_ne];omega
    have d7:(k==7)=false:=by rw [beq_eq_false_iff_ne];omega
    clear c1 c2 c3 c4;have hr:=OD 88 k n s l c5a c5b
    have HR:=Lib.hid hr;clear hr
    cases hnm:plain n s
    all_goals have HNM:=Lib.hid hnm;clear hnm
    all_goals go_enter func88,ntmps88
    all_goals go_wp2_with (first|(go_at_call 85;refine (Gj _ _ _ _ _ _ _).mono ?_;rintro e w1 ⟨rfl,hx1⟩;have hc1:=hx1.cells;rw [HNM.out])|(go_at_call 86;refine (FK _ _ _ l a c [(88,Nd.isExpr),(88,Nd.isExpr)] _ _ S _ hll (by decide) (hs.ext (by refine Ext.alloc ?_ _;refine Ext.trans ?_ ‹_›;refine Ext.alloc ?_ _;exact Ext.refl _)) (Vh (by go_simp) (by go_simp)) (QA DK DK) (QA HKID.out HKID.out)).mono ?_;rintro e w2 ⟨rfl,hx2⟩))
    all_goals go_ret
    all_goals rw [HR.out,HNM.out]
    all_goals exact ⟨AY (by simp),(by repeat (first|exact Ext.refl _|assumption|refine Ext.alloc ?_ _|refine Ext.drew ?_|refine Ext.trans ?_ ‹_›))⟩
  · have hr:=Na k n s l (by omega)
    have HR:=Lib.hid hr;clear hr
    have d1:(k==1)=false:=by rw [beq_eq_false_iff_ne];omega
    have d2:(k==2)=false:=by rw [beq_eq_false_iff_ne];omega
    have d3:(k==3)=false:=by rw [beq_eq_false_iff_ne];omega
    have d4:(k==4)=false:=by rw [beq_eq_false_iff_ne];omega
    have d5:(k==5)=false:=by rw [beq_eq_false_iff_ne];omega
    have d6:(k==6)=false:=by rw [beq_eq_false_iff_ne];omega
    have d7:(k==7)=false:=by rw [beq_eq_false_iff_ne];omega
    clear c1 c2 c3 c4
    go_enter func88,ntmps88
    go_wp2_with fail
    all_goals go_ret
    all_goals rw [HR.out]
    all_goals exact ⟨AY (by first|rfl|(simp;omega)),(by repeat (first|exact Ext.refl _|assumption|refine Ext.alloc ?_ _|refine Ext.drew ?_|refine Ext.trans ?_ ‹_›))⟩
theorem Fm:Gk 87:=enters_of func87 (by kernel_rfl) rfl
theorem Sb:Gk 91:=enters_of func91 (by kernel_rfl) rfl
theorem QC:Gk 47:=enters_of func47 (by kernel_rfl) rfl
theorem Gl:Gk 48:=enters_of func48 (by kernel_rfl) rfl
theorem FV (S:Nat→Prop) (t:Nd) (h:t.wf):El S 88 Nd.isExpr t:=Sa S (t.size+1) t (by omega) h
theorem FW (S:Nat→Prop) (t:Nd) (h:t.wf):El S 87 Nd.isPlace t:=by
 have HE:=Lib.hid (FV S t h);intro a c w hs;obtain ⟨k,n,s,l⟩:=t;have hr:(Nd.mk k n s l).isPlace=((k==2||k==3)&&(Nd.mk k n s l).isExpr):=rfl
 have HR:=Lib.hid hr;clear hr
 have HSI:=Lib.hid hs;clear hs h
 simp only [Nd.kind,Nd.num,Nd.name,Nd.kids,Nd.val]
 by_cases h2:k=2∨k=3
 · rcases h2 with rfl|rfl
   all_goals go_enter func87,ntmps87
   all_goals go_wp2_with (go_at_call 88;refine (HE.out a c _ (HSI.out.ext (by repeat (first|exact Ext.refl _|assumption|refine Ext.alloc ?_ _|refine Ext.drew ?_|refine Ext.trans ?_ ‹_›)))).mono ?_;rintro e w1 ⟨rfl,hx1⟩)
   all_goals go_ret
   all_goals rw [HR.out]
   all_goals exact ⟨AY (by simp),(by repeat (first|exact Ext.refl _|assumption|refine Ext.alloc ?_ _|refine Ext.drew ?_|refine Ext.trans ?_ ‹_›))⟩
 · have d2:(k==2)=false:=by rw [beq_eq_false_iff_ne];omega
   have d3:(k==3)=false:=by rw [beq_eq_false_iff_ne];omega
   clear h2
   go_enter func87,ntmps87
   go_wp2_with fail
   go_ret
   rw [HR.out]
   exact ⟨AY (by simp [d2,d3]),(by refine Ext.alloc ?_ _;exact Ext.refl _)⟩
theorem TN (S:Nat→Prop) (t:Nd) (h:t.wf):El S 91 Nd.isVar t:=by
 have HE:=Lib.hid (FV S t h);intro a c w hs;obtain ⟨k,n,s,l⟩:=t;have hr:(Nd.mk k n s l).isVar=(k==2&&(Nd.mk k n s l).isExpr):=rfl
 have HR:=Lib.hid hr;clear hr
 have HSI:=Lib.hid hs;clear hs h
 simp only [Nd.kind,Nd.num,Nd.name,Nd.kids,Nd.val]
 by_cases h2:k=2
 · subst h2
   go_enter func91,ntmps91
   go_wp2_with (go_at_call 88;refine (HE.out a c _ (HSI.out.ext (by refine Ext.alloc ?_ _;exact Ext.refl _))).mono ?_;rintro e w1 ⟨rfl,hx1⟩)
   go_ret
   rw [HR.out]
   exact ⟨AY (by simp),(by refine Ext.trans ?_ ‹_›;refine Ext.alloc ?_ _;exact Ext.refl _)⟩
 · have d2:(k==2)=false:=by rw [beq_eq_false_iff_ne];omega
   clear h2
   go_enter func91,ntmps91
   go_wp2_with fail
   go_ret
   rw [HR.out]
   exact ⟨AY (by simp [d2]),(by refine Ext.alloc ?_ _;exact Ext.refl _)⟩
theorem QD {k:Int} (hk:k=40∨k=41∨k=42∨k=56) (n:Int) (s:List UInt8) (l:List Nd):(Nd.mk k n s l).isStmt=(plain n s&&Cg l [(87,Nd.isPlace),(88,Nd.isExpr)]):=by
 rcases hk with rfl|rfl|rfl|rfl<;>rcases l with _|⟨x,_|⟨y,_|⟨z,_|⟨u,_|⟨v,l⟩⟩⟩⟩⟩<;>rw [Nd.isStmt.eq_def]<;>simp [Cg,Bool.and_assoc]
theorem QE {k:Int} (hk:k=40∨k=41∨k=42∨k=56) (n:Int) (s:List UInt8) (l:List Nd) (a:Option Addr) (c:Nat) (S:Nat→Prop) (w:World)
 (hs:rowSits S w l a) (hsl:s.length≤9223372036854775807) (hll:l.length≤9223372036854775807) (hrw:C6 l) :
 Calls prog 47 #[.agg #[.int .u8 k,.int .i64 n,str s,.slice a l.length c]] w fun e w'=>e = .returned (.bool (Nd.mk k n s l).isStmt)∧Ext w w':=by
 have HEX:=Lib.hid fun t (ht:t∈l)=>FV S t (Ce hrw t ht)
 have HPL:=Lib.hid fun t (ht:t∈l)=>FW S t (Ce hrw t ht)
 have HSL:=Lib.hid hsl;clear hsl hrw
 have hr:=QD hk n s l
 have HR:=Lib.hid hr;clear hr
 cases hnm:plain n s
 all_goals have HNM:=Lib.hid hnm;clear hnm
 all_goals rcases hk with rfl|rfl|rfl|rfl
 all_goals go_enter func47,ntmps47
 all_goals go_wp2_with (first|(go_at_call 85;refine (Gj _ _ _ _ _ _ _).mono ?_;rintro e w1 ⟨rfl,hx1⟩;have hc1:=hx1.cells;rw [HNM.out])|(go_at_call 86;refine (FK _ _ _ l a c [(87,Nd.isPlace),(88,Nd.isExpr)] _ _ S _ hll (by decide) (hs.ext (by repeat (first|exact Ext.refl _|assumption|refine Ext.alloc ?_ _|refine Ext.drew ?_|refine Ext.trans ?_ ‹_›))) (Vh (by go_simp) (by go_simp)) (QA Fm DK) (QA HPL.out HEX.out)).mono ?_;rintro e w2 ⟨rfl,hx2⟩))
 all_goals go_ret
 all_goals rw [HR.out,HNM.out]
 all_goals exact ⟨AY (by simp),(by repeat (first|exact Ext.refl _|assumption|refine Ext.alloc ?_ _|refine Ext.drew ?_|refine Ext.trans ?_ ‹_›))⟩
theorem QF {k:Int} (hk:k=43) (n:Int) (s:List UInt8) (l:List Nd):(Nd.mk k n s l).isStmt=(plain n s&&Cg l [(87,Nd.isPlace),(87,Nd.isPlace)]):=by
 rcases hk with rfl<;>rcases l with _|⟨x,_|⟨y,_|⟨z,_|⟨u,_|⟨v,l⟩⟩⟩⟩⟩<;>rw [Nd.isStmt.eq_def]<;>simp [Cg,Bool.and_assoc]
theorem QG {k:Int} (hk:k=43) (n:Int) (s:List UInt8) (l:List Nd) (a:Option Addr) (c:Nat) (S:Nat→Prop) (w:World)
 (hs:rowSits S w l a) (hsl:s.length≤9223372036854775807) (hll:l.length≤9223372036854775807) (hrw:C6 l) :
 Calls prog 47 #[.agg #[.int .u8 k,.int .i64 n,str s,.slice a l.length c]] w fun e w'=>e = .returned (.bool (Nd.mk k n s l).isStmt)∧Ext w w':=by
 have HPL:=Lib.hid fun t (ht:t∈l)=>FW S t (Ce hrw t ht)
 have HSL:=Lib.hid hsl;clear hsl hrw
 have hr:=QF hk n s l
 have HR:=Lib.hid hr;clear hr
 cases hnm:plain n s
 all_goals have HNM:=Lib.hid hnm;clear hnm
 all_goals rcases hk with rfl
 all_goals go_enter func47,ntmps47
 all_goals go_wp2_with (first|(go_at_call 85;refine (Gj _ _ _ _ _ _ _).mono ?_;rintro e w1 ⟨rfl,hx1⟩;have hc1:=hx1.cells;rw [HNM.out])|(go_at_call 86;refine (FK _ _ _ l a c [(87,Nd.isPlace),(87,Nd.isPlace)] _ _ S _ hll (by decide) (hs.ext (by refine Ext.alloc ?_ _;refine Ext.trans ?_ ‹_›;refine Ext.alloc ?_ _;exact Ext.refl _)) (Vh (by go_simp) (by go_simp)) (QA Fm Fm) (QA HPL.out HPL.out)).mono ?_;rintro e w2 ⟨rfl,hx2⟩))
 all_goals go_ret
 all_goals rw [HR.out,HNM.out]
 all_goals exact ⟨AY (by simp),(by repeat (first|exact Ext.refl _|assumption|refine Ext.alloc ?_ _|refine Ext.drew ?_|refine Ext.trans ?_ ‹_›))⟩
theorem QH {k:Int} (hk:k=44∨k=45) (n:Int) (s:List UInt8) (l:List Nd):(Nd.mk k n s l).isStmt=(CD n s&&Cg l [(87,Nd.isPlace)]):=by
 rcases hk with rfl|rfl<;>rcases l with _|⟨x,_|⟨y,_|⟨z,_|⟨u,_|⟨v,l⟩⟩⟩⟩⟩<;>rw [Nd.isStmt.eq_def]<;>simp [Cg,Bool.and_assoc]
theorem QI {k:Int} (hk:k=44∨k=45) (n:Int) (s:List UInt8) (l:List Nd) (a:Option Addr) (c:Nat) (S:Nat→Prop) (w:World)
 (hs:rowSits S w l a) (hsl:s.length≤9223372036854775807) (hll:l.length≤9223372036854775807) (hrw:C6 l) :
 Calls prog 47 #[.agg #[.int .u8 k,.int .i64 n,str s,.slice a l.length c]] w fun e w'=>e = .returned (.bool (Nd.mk k n s l).isStmt)∧Ext w w':=by
 have HPL:=Lib.hid fun t (ht:t∈l)=>FW S t (Ce hrw t ht)
 have HSL:=Lib.hid hsl;clear hsl hrw
 have hr:=QH hk n s l
 have HR:=Lib.hid hr;clear hr
 cases hnm:CD n s
 all_goals have HNM:=Lib.hid hnm;clear hnm
 all_goals rcases hk with rfl|rfl
 all_goals go_enter func47,ntmps47
 all_goals go_wp2_with (first|(go_at_call 89;refine (G0 _ _ _ _ _ _ _ HSL.out).mono ?_;rintro e w1 ⟨rfl,hx1⟩;have hc1:=hx1.cells;rw [HNM.out])|(go_at_call 86;refine (FK _ _ _ l a c [(87,Nd.isPlace)] _ _ S _ hll (by decide) (hs.ext (by repeat (first|exact Ext.refl _|assumption|refine Ext.alloc ?_ _|refine Ext.drew ?_|refine Ext.trans ?_ ‹_›))) (R9 (by go_simp)) (Lj Fm) (Lj HPL.out)).mono ?_;rintro e w2 ⟨rfl,hx2⟩))
 all_goals go_ret
 all_goals rw [HR.out,HNM.out]
 all_goals exact ⟨AY (by simp),(by repeat (first|exact Ext.refl _|assumption|refine Ext.alloc ?_ _|refine Ext.drew ?_|refine Ext.trans ?_ ‹_›))⟩
theorem QJ {k:Int} (hk:k=46∨k=47∨k=48∨k=49) (n:Int) (s:List UInt8) (l:List Nd):(Nd.mk k n s l).isStmt=(plain n s&&Cg l [(87,Nd.isPlace)]):=by
 rcases hk with rfl|rfl|rfl|rfl<;>rcases l with _|⟨x,_|⟨y,_|⟨z,_|⟨u,_|⟨v,l⟩⟩⟩⟩⟩<;>rw [Nd.isStmt.eq_def]<;>simp [Cg,Bool.and_assoc]
theorem QK {k:Int} (hk:k=46∨k=47∨k=48∨k=49) (n:Int) (s:List UInt8) (l:List Nd) (a:Option Addr) (c:Nat) (S:Nat→Prop) (w:World)
 (hs:rowSits S w l a) (hsl:s.length≤9223372036854775807) (hll:l.length≤9223372036854775807) (hrw:C6 l) :
 Calls prog 47 #[.agg #[.int .u8 k,.int .i64 n,str s,.slice a l.length c]] w fun e w'=>e = .returned (.bool (Nd.mk k n s l).isStmt)∧Ext w w':=by
 have HPL:=Lib.hid fun t (ht:t∈l)=>FW S t (Ce hrw t ht)
 have HSL:=Lib.hid hsl;clear hsl hrw
 have hr:=QJ hk n s l
 have HR:=Lib.hid hr;clear hr
 cases hnm:plain n s
 all_goals have HNM:=Lib.hid hnm;clear hnm
 all_goals rcases hk with rfl|rfl|rfl|rfl
 all_goals go_enter func47,ntmps47
 all_goals go_wp2_with (first|(go_at_call 85;refine (Gj _ _ _ _ _ _ _).mono ?_;rintro e w1 ⟨rfl,hx1⟩;have hc1:=hx1.cells;rw [HNM.out])|(go_at_call 86;refine (FK _ _ _ l a c [(87,Nd.isPlace)] _ _ S _ hll (by decide) (hs.ext (by repeat (first|exact Ext.refl _|assumption|refine Ext.alloc ?_ _|refine Ext.drew ?_|refine Ext.trans ?_ ‹_›))) (R9 (by go_simp)) (Lj Fm) (Lj HPL.out)).mono ?_;rintro e w2 ⟨rfl,hx2⟩))
 all_goals go_ret
 all_goals rw [HR.out,HNM.out]
 all_goals exact ⟨AY (by simp),(by repeat (first|exact Ext.refl _|assumption|refine Ext.alloc ?_ _|refine Ext.drew ?_|refine Ext.trans ?_ ‹_›))⟩
theorem QL {k:Int} (hk:k=52∨k=53) (n:Int) (s:List UInt8) (l:List Nd):(Nd.mk k n s l).isStmt=(plain n s&&Cg l [(88,Nd.isExpr),(48,Nd.isBlock),(48,Nd.isBlock),(88,Nd.isExpr)]):=by
 rcases hk with rfl|rfl<;>rcases l with _|⟨x,_|⟨y,_|⟨z,_|⟨u,_|⟨v,l⟩⟩⟩⟩⟩<;>rw [Nd.isStmt.eq_def]<;>simp [Cg,Bool.and_assoc]
theorem QM {k:Int} (hk:k=52∨k=53) (n:Int) (s:List UInt8) (l:List Nd) (a:Option Addr) (c:Nat) (S:Nat→Prop) (w:World)
 (hs:rowSits S w l a) (hsl:s.length≤9223372036854775807) (hll:l.length≤9223372036854775807) (hrw:C6 l) (hb : ∀t∈l,El S 48 Nd.isBlock t) :
 Calls prog 47 #[.agg #[.int .u8 k,.int .i64 n,str s,.slice a l.length c]] w fun e w'=>e = .returned (.bool (Nd.mk k n s l).isStmt)∧Ext w w':=by
 have HBL:=Lib.hid hb;clear hb
 have HEX:=Lib.hid fun t (ht:t∈l)=>FV S t (Ce hrw t ht)
 have HSL:=Lib.hid hsl;clear hsl hrw
 have hr:=QL hk n s l
 have HR:=Lib.hid hr;clear hr
 cases hnm:plain n s
 all_goals have HNM:=Lib.hid hnm;clear hnm
 all_goals rcases hk with rfl|rfl
 all_goals go_enter func47,ntmps47
 all_goals go_wp2_with (first|(go_at_call 85;refine (Gj _ _ _ _ _ _ _).mono ?_;rintro e w1 ⟨rfl,hx1⟩;have hc1:=hx1.cells;rw [HNM.out])|(go_at_call 86;refine (FK _ _ _ l a c [(88,Nd.isExpr),(48,Nd.isBlock),(48,Nd.isBlock),(88,Nd.isExpr)] _ _ S _ hll (by decide) (hs.ext (by repeat (first|exact Ext.refl _|assumption|refine Ext.alloc ?_ _|refine Ext.drew ?_|refine Ext.trans ?_ ‹_›))) (WH (by go_simp) (by go_simp) (by go_simp) (by go_simp)) (VV DK Gl Gl DK) (VV HEX.out HBL.out HBL.out HEX.out)).mono ?_;rintro e w2 ⟨rfl,hx2⟩))
 all_goals go_ret
 all_goals rw [HR.out,HNM.out]
 all_goals exact ⟨AY (by simp),(by repeat (first|exact Ext.refl _|assumption|refine Ext.alloc ?_ _|refine Ext.drew ?_|refine Ext.trans ?_ ‹_›))⟩
theorem QN {k:Int} (hk:k=54) (n:Int) (s:List UInt8) (l:List Nd):(Nd.mk k n s l).isStmt=(CD n s&&Cg l [(88,Nd.isExpr),(48,Nd.isBlock),(88,Nd.isExpr)]):=by
 rcases hk with rfl<;>rcases l with _|⟨x,_|⟨y,_|⟨z,_|⟨u,_|⟨v,l⟩⟩⟩⟩⟩<;>rw [Nd.isStmt.eq_def]<;>simp [Cg,Bool.and_assoc]
theorem QO {k:Int} (hk:k=54) (n:Int) (s:List UInt8) (l:List Nd) (a:Option Addr) (c:Nat) (S:Nat→Prop) (w:World)
 (hs:rowSits S w l a) (hsl:s.length≤9223372036854775807) (hll:l.length≤9223372036854775807) (hrw:C6 l) (hb : ∀t∈l,El S 48 Nd.isBlock t) :
 Calls prog 47 #[.agg #[.int .u8 k,.int .i64 n,str s,.slice a l.length c]] w fun e w'=>e = .returned (.bool (Nd.mk k n s l).isStmt)∧Ext w w':=by
 have HBL:=Lib.hid hb;clear hb
 have HEX:=Lib.hid fun t (ht:t∈l)=>FV S t (Ce hrw t ht)
 have HSL:=Lib.hid hsl;clear hsl hrw
 have hr:=QN hk n s l
 have HR:=Lib.hid hr;clear hr
 cases hnm:CD n s
 all_goals have HNM:=Lib.hid hnm;clear hnm
 all_goals rcases hk with rfl
 all_goals go_enter func47,ntmps47
 all_goals go_wp2_with (first|(go_at_call 89;refine (G0 _ _ _ _ _ _ _ HSL.out).mono ?_;rintro e w1 ⟨rfl,hx1⟩;have hc1:=hx1.cells;rw [HNM.out])|(go_at_call 86;refine (FK _ _ _ l a c [(88,Nd.isExpr),(48,Nd.isBlock),(88,Nd.isExpr)] _ _ S _ hll (by decide) (hs.ext (by refine Ext.alloc ?_ _;refine Ext.trans ?_ ‹_›;refine Ext.alloc ?_ _;exact Ext.refl _)) (WG (by go_simp) (by go_simp) (by go_simp)) (VU DK Gl DK) (VU HEX.out HBL.out HEX.out)).mono ?_;rintro e w2 ⟨rfl,hx2⟩))
 all_goals go_ret
 all_goals rw [HR.out,HNM.out]
 all_goals exact ⟨AY (by simp),(by repeat (first|exact Ext.refl _|assumption|refine Ext.alloc ?_ _|refine Ext.drew ?_|refine Ext.trans ?_ ‹_›))⟩
theorem QP {k:Int} (hk:k=55) (n:Int) (s:List UInt8) (l:List Nd):(Nd.mk k n s l).isStmt=(CD n s&&Cg l [(48,Nd.isBlock)]):=by
 rcases hk with rfl<;>rcases l with _|⟨x,_|⟨y,_|⟨z,_|⟨u,_|⟨v,l⟩⟩⟩⟩⟩<;>rw [Nd.isStmt.eq_def]<;>simp [Cg,Bool.and_assoc]
theorem QQ {k:Int} (hk:k=55) (n:Int) (s:List UInt8) (l:List Nd) (a:Option Addr) (c:Nat) (S:Nat→Prop) (w:World)
 (hs:rowSits S w l a) (hsl:s.length≤9223372036854775807) (hll:l.length≤9223372036854775807) (hrw:C6 l) (hb : ∀t∈l,El S 48 Nd.isBlock t) :
 Calls prog 47 #[.agg #[.int .u8 k,.int .i64 n,str s,.slice a l.length c]] w fun e w'=>e = .returned (.bool (Nd.mk k n s l).isStmt)∧Ext w w':=by
 have HBL:=Lib.hid hb;clear hb
 have HSL:=Lib.hid hsl;clear hsl hrw
 have hr:=QP hk n s l
 have HR:=Lib.hid hr;clear hr
 cases hnm:CD n s
 all_goals have HNM:=Lib.hid hnm;clear hnm
 all_goals rcases hk with rfl
 all_goals go_enter func47,ntmps47
 all_goals go_wp2_with (first|(go_at_call 89;refine (G0 _ _ _ _ _ _ _ HSL.out).mono ?_;rintro e w1 ⟨rfl,hx1⟩;have hc1:=hx1.cells;rw [HNM.out])|(go_at_call 86;refine (FK _ _ _ l a c [(48,Nd.isBlock)] _ _ S _ hll (by decide) (hs.ext (by refine Ext.alloc ?_ _;refine Ext.trans ?_ ‹_›;refine Ext.alloc ?_ _;exact Ext.refl _)) (R9 (by go_simp)) (Lj Gl) (Lj HBL.out)).mono ?_;rintro e w2 ⟨rfl,hx2⟩))
 all_goals go_ret
 all_goals rw [HR.out,HNM.out]
 all_goals exact ⟨AY (by simp),(by repeat (first|exact Ext.refl _|assumption|refine Ext.alloc ?_ _|refine Ext.drew ?_|refine Ext.trans ?_ ‹_›))⟩
theorem QR {k:Int} (hk:k=50∨k=51) (n:Int) (s:List UInt8) (l:List Nd):(Nd.mk k n s l).isStmt=(CD n s&&decide (l.length≤8)&&l.all Nd.isVar):=by
 rcases hk with rfl|rfl<;>rw [Nd.isStmt.eq_def]<;>simp
theorem QS {k:Int} (hk:k=50∨k=51) (n:Int) (s:List UInt8) (l:List Nd) (a:Option Addr) (c:Nat) (S:Nat→Prop) (w:World)
 (hs:rowSits S w l a) (hsl:s.length≤9223372036854775807) (hll:l.length≤9223372036854775807) (hrw:C6 l) :
 Calls prog 47 #[.agg #[.int .u8 k,.int .i64 n,str s,.slice a l.length c]] w fun e w'=>e = .returned (.bool (Nd.mk k n s l).isStmt)∧Ext w w':=by
 have HVA:=Lib.hid fun t (ht:t∈l)=>TN S t (Ce hrw t ht)
 have HSL:=Lib.hid hsl;clear hsl hrw
 have hr:=QR hk n s l
 have HR:=Lib.hid hr;clear hr
 cases hnm:CD n s
 all_goals have HNM:=Lib.hid hnm;clear hnm
 all_goals by_cases h8:l.length≤8
 all_goals have d8:decide ((l.length:Int)≤8)=decide (l.length≤8):=by simp only [decide_eq_decide];omega
 all_goals first|rw [decide_eq_true h8] at d8|rw [decide_eq_false h8] at d8
 all_goals have H8:=Lib.hid h8;clear h8
 all_goals rcases hk with rfl|rfl
 all_goals go_enter func47,ntmps47
 all_goals go_wp2_with (first|(go_at_call 89;refine (G0 _ _ _ _ _ _ _ HSL.out).mono ?_;rintro e w1 ⟨rfl,hx1⟩;have hc1:=hx1.cells;rw [HNM.out])|(go_at_call 90;refine (PK 91 Nd.isVar Sb l a c S _ hll (hs.ext (by repeat (first|exact Ext.refl _|assumption|refine Ext.alloc ?_ _|refine Ext.drew ?_|refine Ext.trans ?_ ‹_›))) HVA.out).mono ?_;rintro e w2 ⟨rfl,hx2⟩))
 all_goals go_ret
 all_goals rw [HR.out,HNM.out]
 all_goals exact ⟨AY (by simp [H8.out]),(by repeat (first|exact Ext.refl _|assumption|refine Ext.alloc ?_ _|refine Ext.drew ?_|refine Ext.trans ?_ ‹_›))⟩
theorem Nb (k n:Int) (s:List UInt8) (l:List Nd) (h:k<40∨56<k):(Nd.mk k n s l).isStmt=false:=by
 rw [Nd.isStmt.eq_def];simp only [];rw [if_neg (by omega),if_neg (by omega),if_neg (by omega),if_neg (by omega),if_neg (by omega),if_neg (by omega),if_neg (by omega),if_neg (by omega)]
theorem Nc (k n:Int) (s:List UInt8) (l:List Nd) (a:Option Addr) (c:Nat) (w:World) (h:k<40∨56<k) :
 Calls prog 47 #[.agg #[.int .u8 k,.int .i64 n,str s,.slice a l.length c]] w fun e w'=>e = .returned (.bool (Nd.mk k n s l).isStmt)∧Ext w w':=by
 have hr:=Nb k n s l h
 have HR:=Lib.hid hr;clear hr
 have d40:(k==40)=false:=by rw [beq_eq_false_iff_ne];omega
 have d41:(k==41)=false:=by rw [beq_eq_false_iff_ne];omega
 have d42:(k==42)=false:=by rw [beq_eq_false_iff_ne];omega
 have d43:(k==43)=false:=by rw [beq_eq_false_iff_ne];omega
 have d44:(k==44)=false:=by rw [beq_eq_false_iff_ne];omega
 have d45:(k==45)=false:=by rw [beq_eq_false_iff_ne];omega
 have d46:(k==46)=false:=by rw [beq_eq_false_iff_ne];omega
 have d47:(k==47)=false:=by rw [beq_eq_false_iff_ne];omega
 have d48:(k==48)=false:=by rw [beq_eq_false_iff_ne];omega
 have d49:(k==49)=false:=by rw [beq_eq_false_iff_ne];omega
 have d50:(k==50)=false:=by rw [beq_eq_false_iff_ne];omega
 have d51:(k==51)=false:=by rw [beq_eq_false_iff_ne];omega
 have d52:(k==52)=false:=by rw [beq_eq_false_iff_ne];omega
 have d53:(k==53)=false:=by rw [beq_eq_false_iff_ne];omega
 have d54:(k==54)=false:=by rw [beq_eq_false_iff_ne];omega
 have d55:(k==55)=false:=by rw [beq_eq_false_iff_ne];omega
 have d56:(k==56)=false:=by rw [beq_eq_false_iff_ne];omega
 clear h
 go_enter func47,ntmps47
 go_wp2_with fail
 go_ret
 rw [HR.out]
 exact ⟨rfl,(by refine Ext.alloc ?_ _;exact Ext.refl _)⟩
theorem OE (k n:Int) (s:List UInt8) (l:List Nd) (a:Option Addr) (c:Nat) (S:Nat→Prop) (w:World)
 (hs:rowSits S w l a) (hsl:s.length≤9223372036854775807) (hll:l.length≤9223372036854775807) (hrw:C6 l) (hb : ∀t∈l,El S 48 Nd.isBlock t) :
 Calls prog 47 #[.agg #[.int .u8 k,.int .i64 n,str s,.slice a l.length c]] w fun e w'=>e = .returned (.bool (Nd.mk k n s l).isStmt)∧Ext w w':=by
 by_cases h:k<40∨56<k
 · exact Nc k n s l a c w h
 by_cases b:k=40∨k=41∨k=42∨k=56
 · exact QE b n s l a c S w hs hsl hll hrw
 by_cases d:k=43
 · exact QG d n s l a c S w hs hsl hll hrw
 by_cases f:k=44∨k=45
 · exact QI f n s l a c S w hs hsl hll hrw
 by_cases g:k=46∨k=47∨k=48∨k=49
 · exact QK g n s l a c S w hs hsl hll hrw
 by_cases i:k=52∨k=53
 · exact QM i n s l a c S w hs hsl hll hrw hb
 by_cases j:k=54
 · exact QO j n s l a c S w hs hsl hll hrw hb
 by_cases m:k=55
 · exact QQ m n s l a c S w hs hsl hll hrw hb
 by_cases o:k=50∨k=51
 · exact QS o n s l a c S w hs hsl hll hrw
 omega
theorem Nf (k n:Int) (s:List UInt8) (l:List Nd) (a:Option Addr) (c:Nat) (S:Nat→Prop) (w:World)
 (hs:rowSits S w l a) (hll:l.length≤9223372036854775807) (ht : ∀t∈l,El S 47 Nd.isStmt t) :
 Calls prog 48 #[.agg #[.int .u8 k,.int .i64 n,str s,.slice a l.length c]] w fun e w'=>e = .returned (.bool (Nd.mk k n s l).isBlock)∧Ext w w':=by
 have hall : ∀r:List Nd,DU r=r.all Nd.isStmt:=by
  intro r
  induction r with
  | nil=>rfl
  | cons x r ih=>simp [DU,ih]
 have hr:(Nd.mk k n s l).isBlock=(k==57&&plain n s&&l.all Nd.isStmt):=by rw [Nd.isBlock,hall]
 have HR:=Lib.hid hr;clear hr hall
 have HT:=Lib.hid ht;clear ht
 by_cases h57:k=57
 · subst h57
   cases hnm:plain n s
   all_goals have HNM:=Lib.hid hnm;clear hnm
   all_goals go_enter func48,ntmps48
   all_goals go_wp2_with (first|(go_at_call 85;refine (Gj _ _ _ _ _ _ _).mono ?_;rintro e w1 ⟨rfl,hx1⟩;have hc1:=hx1.cells;rw [HNM.out])|(go_at_call 90;refine (PK 47 Nd.isStmt QC l a c S _ hll (hs.ext (by refine Ext.trans ?_ ‹_›;refine Ext.alloc ?_ _;exact Ext.refl _)) HT.out).mono ?_;rintro e w2 ⟨rfl,hx2⟩))
   all_goals go_ret
   all_goals rw [HR.out,HNM.out]
   all_goals exact ⟨AY (by simp),(by repeat (first|exact Ext.refl _|assumption|refine Ext.alloc ?_ _|refine Ext.drew ?_|refine Ext.trans ?_ ‹_›))⟩
 · have d57:(k==57)=false:=by rw [beq_eq_false_iff_ne];omega
   clear h57
   go_enter func48,ntmps48
   go_wp2_with fail
   go_ret
   rw [HR.out]
   exact ⟨AY (by simp [d57]),(by refine Ext.alloc ?_ _;exact Ext.refl _)⟩
theorem Hg (S:Nat→Prop) (N:Nat):(∀t:Nd,t.size<N→t.wf→El S 47 Nd.isStmt t)∧(∀t:Nd,t.size<N→t.wf→El S 48 Nd.isBlock t):=by
 induction N with
 | zero=>exact ⟨fun t h=>absurd h (Nat.not_lt_zero _),fun t h=>absurd h (Nat.not_lt_zero _)⟩
 | succ N ih=>
  refine ⟨?_,?_⟩
  · rintro ⟨k,n,s,l⟩ hN hwf a c w hs
    simp only [Nd.wf,Nd.size,Nd.sits] at *
    exact OE k n s l a c S w hs hwf.2.2.2.2.1 hwf.2.2.2.2.2.1 hwf.2.2.2.2.2.2 (fun t ht=>ih.2 t (by have:=Dw ht;omega) (Ce hwf.2.2.2.2.2.2 t ht))
  · rintro ⟨k,n,s,l⟩ hN hwf a c w hs
    simp only [Nd.wf,Nd.size,Nd.sits] at *
    exact Nf k n s l a c S w hs hwf.2.2.2.2.2.1 (fun t ht=>ih.1 t (by have:=Dw ht;omega) (Ce hwf.2.2.2.2.2.2 t ht))
theorem Ng (S:Nat→Prop) (t:Nd) (h:t.wf):El S 47 Nd.isStmt t:=(Hg S (t.size+1)).1 t (by omega) h
theorem LF (S:Nat→Prop) (t:Nd) (h:t.wf):El S 48 Nd.isBlock t:=(Hg S (t.size+1)).2 t (by omega) h
attribute [local irreducible] Go.Calls
mutual
def Nd.eqb:Nd→Nd→Bool
 | .mk k n s l,.mk k' n' s' l'=>decide (k=k')&&(decide (n=n')&&(decide (s=s')&&DE l l'))
def DE:List Nd→List Nd→Bool
 | [],[]=>true
 | x::r,y::q=>x.eqb y&&DE r q
 | [],_::_=>false
 | _::_,[]=>false
end
mutual
theorem PL : ∀t u:Nd,t.eqb u=true↔t=u
 | .mk k n s l,.mk k' n' s' l'=>by
  unfold Nd.eqb
  simp only [Bool.and_eq_true,decide_eq_true_eq,Kf l l',Nd.mk.injEq]
theorem Kf : ∀l q:List Nd,DE l q=true↔l=q
 | [],[]=>by simp [DE]
 | x::r,y::q=>by
  unfold DE
  simp only [Bool.and_eq_true,PL x y,Kf r q,List.cons.injEq]
 | [],_::_=>by simp [DE]
 | _::_,[]=>by simp [DE]
end
theorem Kg : ∀ {l q:List Nd},l.length≠q.length→DE l q=false
 | [],[],h=>absurd rfl h
 | x::r,y::q,h=>by
  unfold DE
  rw [Kg (by simpa using h)];simp
 | [],_::_,_=>by simp [DE]
 | _::_,[],_=>by simp [DE]
theorem QT {l q:List Nd} {j:Nat} (hj:j<l.length) (hq:j<q.length):DE (l.drop j) (q.drop j)=(l[j].eqb q[j]&&DE (l.drop (j+1)) (q.drop (j+1))):=by
 rw [List.drop_eq_getElem_cons hj,List.drop_eq_getElem_cons hq,DE]
mutual
theorem Cy {S:Nat→Prop} {w:World} : ∀(l:List Nd) (a:Option Addr),rowSits S w l a→rowSits (· < w.heap.size) w l a
 | [],_,_=>by simp [rowSits]
 | t::r,a,h=>by
  simp only [rowSits] at h ⊢;obtain ⟨b,o,a',c,rfl,hb,h0,h1,h2,h3,hs,hr⟩:=h
  exact ⟨b,o,a',c,rfl,Ca h0,h0,h1,h2,h3,BP t a' hs,Cy r _ hr⟩
theorem BP {S:Nat→Prop} {w:World} : ∀(t:Nd) (a:Option Addr),t.sits S w a→t.sits (· < w.heap.size) w a
 | .mk _ _ _ l,a,h=>by
  simp only [Nd.sits] at h ⊢
  exact Cy l a h
end
def WR (x y:Nd):Prop:= ∀(S S':Nat→Prop) (a a':Option Addr) (c c':Nat) (w:World),x.sits S w a→y.sits S' w a'→Calls prog 20 #[x.val a c,y.val a' c'] w fun e w'=>e = .returned (.bool (x.eqb y))∧Ext w w'
theorem Nh (l q:List Nd) (h : ∀x∈l,∀y,WR x y) (S S':Nat→Prop) (a a':Option Addr) (c c':Nat) (w:World) (hl:l.length≤1000000000) (hs:rowSits S w l a) (hs':rowSits S' w q a') :
 Calls prog 49 #[.slice a l.length c,.slice a' q.length c',.func (.func 20) #[] #[]] w fun e w'=>e = .returned (.bool (DE l q))∧Ext w w':=by
 have X:=Ext.refl w;have H:=Lib.hid h;clear h
 by_cases hne:l.length=q.length
 · refine Ad func49 ntmps49 rfl rfl ?_
   focus
    refine cS (C1 Pa (cT (Am (cS (C1 Mv (C1 Pz (C1 Mv (C1 Pz (C1 V2 (cT (Hn ?_)))))))))));refine AH (Ai (Am (cS (C1 Mv (C1 Pz (C1 Mv (cT (AK ?_))))))));rotate_left
   replace hs:=Cy _ _ hs;replace hs':=Cy _ _ hs';refine Bn (ι:=Nat) (fun j=>[(1,.slice a' q.length c'),(2,.func (.func 20) #[] #[]),(15,.slice a l.length c),(16,.int .i64 l.length),(17,.int .i64 j)])
    (fun j w'=>j≤l.length∧rowSits (· < w.heap.size) w' l a∧rowSits (· < w.heap.size) w' q a'∧DE l q=DE (l.drop j) (q.drop j)∧Ext w w') (fun j=>l.length-j) 0 sB ⟨Nat.zero_le _,hs,hs',rfl,X⟩ ?_
   clear hs hs' X;rintro j w1 ⟨hj,hs,hs',he,X⟩;have hsz:=X.size
   by_cases hlt:j<l.length
   · have d:j<q.length:=by omega
     obtain ⟨kb,ko,rfl,hkS,hkid⟩:=Cv hs (by intro e;subst e;simp at hlt);obtain ⟨kb',ko',rfl,hkS',hkid'⟩:=Cv hs' (by intro e;subst e;simp at d);obtain ⟨xa,xc,rx,sx⟩:=hkid j l[j] (List.getElem?_eq_getElem hlt);obtain ⟨ya,yc,ry,sy⟩:=hkid' j q[j] (List.getElem?_eq_getElem d);have HC:=H.out l[j] (List.getElem_mem hlt) q[j];rw [QT hlt d] at he;have H2:=Lib.hid HC;clear HC hkid hkid' H
     generalize l[j]=x at *
     generalize q[j]=y at *
     focus
      refine eK ?_;refine C1 (Gb rx) (eA [_,_,_,_] ?_);intro D E o p F G;revert X hs hs' rx sx ry sy;refine eE p ?_;intro X hs hs' rx sx ry sy;refine C1 Pa (eS [_,_,_,_] o ?_);intro I b i r;revert X hs hs' rx sx ry sy;refine eF i ?_;intro X hs hs' rx sx ry sy;refine eK ?_;refine C1 (Gb ry) (AB [_,_,_,_] Bj rfl rfl ?_);intro s t k;refine eI [_,_,_,_] k ?_;intro u f m v z;revert b X hs hs' rx sx ry sy;refine eE m ?_;intro b X hs hs' rx sx ry sy;refine eK ?_;refine Ae [_,_,_,_] Aa rfl rfl rfl b rfl rfl rfl (Ae [_,_,_,_] Aa rfl rfl rfl f rfl rfl rfl ?_);refine AQ (BQ (fi:=[]) (ca:=[]) (by kernel_rfl) rfl rfl (H2.out _ _ _ _ _ _ _ ‹_› ‹_›) (fun _ _ h=>⟨_,h.1⟩)) rfl ?_ (fun _ h=>h);rintro A B ⟨⟨⟩,n⟩;revert f b X hs hs' rx sx ry sy;refine eY n ?_;intro C f b X hs hs' rx sx ry sy;refine C1 Pt (cT ?_);refine JU rfl (fun g=>?_) (fun g=>?_);refine eK ?_;refine Af rfl rfl ?_;rotate_left;refine AH (An (Ai (Ah (C1 V7 (C1 Mv (Aj ?_))))));rotate_left
     · exact ⟨by rw [he,g];rfl,X⟩
     · rw [g,Bool.true_and] at he
       exact AW (j+1) sB ⟨by omega,hs,hs',he,X⟩ (by omega)
   · obtain rfl:j=l.length:=by omega
     rw [List.drop_length,hne,List.drop_length] at he
     focus
      refine eK ?_;refine Af rfl rfl ?_;rotate_left
     exact ⟨by rw [he];rfl,X⟩
 · rw [Kg hne];refine Ad func49 ntmps49 rfl rfl ?_
   focus
    refine eK ?_;refine Af rfl rfl ?_;rotate_left
   exact ⟨rfl,X⟩
theorem D2 : ∀ {l:List Nd} {x:Nd},x∈l→x.size≤Au l
 | [],x,hx=>by cases hx
 | t::r,x,hx=>by
  simp only [Au]
  rcases List.mem_cons.1 hx with rfl|hx
  · omega
  · have:=D2 hx;omega
theorem EO (l:List Nd):l.length≤Au l:=by
 induction l with
 | nil=>simp [Au]
 | cons x r ih=>
  have:1≤x.size:=by cases x;simp only [Nd.size];omega
  simp only [Au,List.length_cons];omega
theorem TO (N:Nat) : ∀(t u:Nd) (S S':Nat→Prop) (a a':Option Addr) (c c':Nat) (w:World),t.size<N→t.size≤1000000000→t.sits S w a→u.sits S' w a' →
 Calls prog 20 #[t.val a c,u.val a' c'] w fun e w'=>e = .returned (.bool (t.eqb u))∧Ext w w':=by
 induction N with
 | zero=>intro t u S S' a a' c c' w h;omega
 | succ N ih=>
  rintro ⟨k,n,s,l⟩ ⟨k',n',s',q⟩ S S' a a' c c' w hN hM hs hs';simp only [Nd.sits] at hs hs';simp only [Nd.size] at hN hM;have hll:=EO l
  have hC : ∀x∈l,∀y,WR x y:=fun x hx y S S' a a' c c' w h1 h2=>by
   have:=D2 hx
   exact ih x y S S' a a' c c' w (by omega) (by omega) h1 h2
  have HF:=Lib.hid (fun w=>Nh l q hC S S' a a' c c' w (by omega));clear hC ih;simp only [Nd.val,Nd.kind,Nd.num,Nd.name,Nd.kids]
  unfold Nd.eqb
  have X:=Ext.refl w
  by_cases hk:k=k'
  · by_cases hn:n=n'
    · by_cases hsn:s=s'
      · rw [decide_eq_true hk,decide_eq_true hn,decide_eq_true hsn,Bool.true_and,Bool.true_and,Bool.true_and];subst hk hn hsn;refine Ad func20 ntmps20 rfl rfl ?_
        focus
         refine cS (eB [_,_,_,_] ?_);intro b1 w2 h4 x5 p6 z7;revert hs hs' X;refine eE x5 ?_;intro hs hs' X;refine eB [_,_,_,_] ?_;intro b8 w9 b o J K;revert h4 hs hs' X;refine eE o ?_;intro h4 hs hs' X;refine C1 Pa (cN (C1 Pg (C1 (Pl h4) (C1 Pg (C1 (Pl b) (C1 V1 (C1 Mv (RM (C1 Pf (RM (C1 (Pl h4) ?_)))))))))));refine RM (C1 Pf (RM (C1 (Pl b) (RM (C1 V1 (C1 VR (C1 Mv (RM (C1 Pf (RM (C1 (Pl h4) ?_)))))))))));refine RM (C1 Pf (RM (C1 (Pl b) (RM (C1 V8 (C1 VR (C1 Mv (BR rfl rfl rfl (B0 (rfl)) (C1 Pf (BR rfl rfl rfl (B0 (rfl)) (C1 (Pl h4) ?_)))))))))));refine BR rfl rfl rfl (B0 (rfl)) (C1 Pf (BR rfl rfl rfl (B0 (rfl)) (C1 (Pl b) (BR rfl rfl rfl (B0 (rfl)) (cC rfl (HF.out _ ‹_› ‹_›) ?_)))));rintro _ L ⟨⟨⟩,p⟩;revert b h4 hs hs' X;refine eY p ?_;intro M b h4 hs hs' X;refine C1 (Qy (rfl)) ?_;refine eK ?_;refine Af rfl rfl ?_;rotate_left
        exact ⟨rfl,X⟩
      · rw [decide_eq_true hk,decide_eq_true hn,decide_eq_false hsn,Bool.true_and,Bool.true_and,Bool.false_and];subst hk hn;refine Ad func20 ntmps20 rfl rfl ?_
        focus
         refine cS (eB [_,_,_,_] ?_);intro O Q d r R T;revert hs hs' X;refine eE r ?_;intro hs hs' X;refine eB [_,_,_,_] ?_;intro U V A f B C;revert d hs hs' X;refine eE f ?_;intro d hs hs' X;refine eK ?_;refine Af rfl rfl ?_;rotate_left
        exact ⟨rfl,X⟩
    · rw [decide_eq_true hk,decide_eq_false hn,Bool.true_and,Bool.false_and];subst hk;refine Ad func20 ntmps20 rfl rfl ?_
      focus
       refine cS (eB [_,_,_,_] ?_);intro W Y g v Z aa;revert hs hs' X;refine eE v ?_;intro hs hs' X;refine eB [_,_,_,_] ?_;intro ab ac D i E F;revert g hs hs' X;refine eE i ?_;intro g hs hs' X;refine eK ?_;refine C1 (Bh rfl rfl rfl) ?_;refine eK ?_;refine Af rfl rfl ?_;rotate_left
      exact ⟨rfl,X⟩
  · rw [decide_eq_false hk,Bool.false_and];refine Ad func20 ntmps20 rfl rfl ?_
    focus
     refine cS (eB [_,_,_,_] ?_);intro ad ae j z af ag;revert hs hs' X;refine eE z ?_;intro hs hs' X;refine eB [_,_,_,_] ?_;intro ah ai G m H I;revert j hs hs' X;refine eE m ?_;intro j hs hs' X;refine eK ?_;refine C1 (Bh rfl rfl rfl) ?_;refine eK ?_;refine C1 (Bh rfl rfl rfl) ?_;refine eK ?_;refine Af rfl rfl ?_;rotate_left
    exact ⟨rfl,X⟩
abbrev ints (xs:List Int):List Value:=xs.map (.int .i64 ·)
def IntsAt (w:World) (xs:List Int) (a:Option Addr):Prop:=Rows (fun _=>True) w (ints xs) a
theorem IntsAt.ext {w w':World} {xs:List Int} {a:Option Addr} (h:IntsAt w xs a) (x:Ext w w'):IntsAt w' xs a:=Rows.ext h x
instance {w w':World} {xs:List Int} {a:Option Addr}:LfE w w' (IntsAt w xs a) (IntsAt w' xs a):=⟨fun x h=>Bk.IntsAt.ext h x⟩
theorem IntsAt.get {w:World} {xs:List Int} {a:Option Addr} (h:IntsAt w xs a) (hx:xs≠[]) : ∃b o,a=some ⟨b,o,none⟩∧Row w ⟨b,o,none⟩ (ints xs):=by
 rcases h with h|⟨b,o,h1,-,h2⟩
 · exact absurd (List.map_eq_nil_iff.1 h) hx
 · exact ⟨b,o,h1,h2⟩
theorem IntsAt.at {w:World} {xs:List Int} {b o:Nat} (h:Row w ⟨b,o,none⟩ (ints xs)) {i:Nat} (hi:i<xs.length):Row w ⟨b,o+i*1,none⟩ [.int .i64 (xs.getD i 0)]:=by
 intro j v hj
 match j,hj with
 | 0,hj=>
  simp only [List.getElem?_cons_zero,Option.some.injEq] at hj;subst hj;have:=h.at (i:=i) (v:=.int .i64 (xs.getD i 0)) (by simp [ints,List.getElem?_map,List.getElem?_eq_getElem hi,List.getD_eq_getElem?_getD])
  simpa [Addr.add] using this
def LookR (xs:List Int) (q:Bool) (w:World):Ending→World→Prop:=fun e w'=> ∃a c,e = .returned (.tuple #[.slice a xs.length c,.bool q])∧IntsAt w' xs a∧xs.length≤1000000∧Ext w w'
theorem LookR.ret {xs:List Int} {q:Bool} {w:World} {e:Ending} {w':World} (h:LookR xs q w e w') : ∃v,e = .returned v:=by
 obtain ⟨_,_,h,-⟩:=h
 exact ⟨_,h⟩
structure Keep (I:World→Prop) (w:World):Prop where
 h:I w
 s : ∀w1 w2,I w1→Ext w1 w2→I w2
theorem Keep.ext {I:World→Prop} {w w':World} (h:Keep I w) (x:Ext w w'):Keep I w':=⟨h.s _ _ h.h x,h.s⟩
instance {I:World→Prop} {w w':World}:LfE w w' (Keep I w) (Keep I w'):=⟨fun x h=>Bk.Keep.ext h x⟩
def Jn (at_:List UInt8→Option (List Int)) (f:FuncId) (fi:List Value) (I:World→Prop):Prop:= ∀(s:List UInt8) (w:World),Keep I w→Calls prog f (fi++[str s]++[]).toArray w (LookR ((at_ s).getD []) (at_ s).isSome w)
def EvR (r:Int×Int) (w:World):Ending→World→Prop:=fun e w'=>e = .returned (.tuple #[.int .i64 r.1,.int .i64 r.2])∧Ext w w'
theorem EvR.ret {r:Int×Int} {w:World} {e:Ending} {w':World} (h:EvR r w e w') : ∃v,e = .returned v:=⟨_,h.1⟩
inductive ExprSh:Nd→Prop where
 | num {n:Int}:ExprSh (.mk 1 n [] [])
 | ref {k:Int} {s:List UInt8}:(k=2∨k=4∨k=5)→Cu s=true→ExprSh (.mk k 0 s [])
 | item {s:List UInt8} {x:Nd}:Cu s=true→x.isExpr=true→ExprSh (.mk 3 0 s [x])
 | un {k:Int} {x:Nd}:(k=6∨k=7)→x.isExpr=true→ExprSh (.mk k 0 [] [x])
 | bin {k:Int} {x y:Nd}:8≤k∧k≤23→x.isExpr=true→y.isExpr=true→ExprSh (.mk k 0 [] [x,y])
theorem Kh {t:Nd} (h:t.isExpr=true):ExprSh t:=by
 obtain ⟨k,n,s,l⟩:=t
 unfold Nd.isExpr at h
 by_cases c1:k=1
 · rw [if_pos c1] at h
   simp only [Bool.and_eq_true,List.isEmpty_iff,decide_eq_true_eq] at h;obtain ⟨⟨h1,rfl⟩,rfl⟩:=h;subst c1
   exact .num
 rw [if_neg c1] at h
 by_cases c2:k=2∨k=4∨k=5
 · rw [if_pos c2] at h
   simp only [Bool.and_eq_true,CD,beq_iff_eq,List.isEmpty_iff] at h;obtain ⟨⟨rfl,hn⟩,rfl⟩:=h
   exact .ref c2 hn
 rw [if_neg c2] at h
 by_cases c3:k=3
 · rw [if_pos c3] at h
   simp only [Bool.and_eq_true,CD,beq_iff_eq] at h;obtain ⟨⟨rfl,hn⟩,h2⟩:=h;subst c3
   split at h2
   · exact .item hn h2
   · cases h2
 rw [if_neg c3] at h
 by_cases c4:k=6∨k=7
 · rw [if_pos c4] at h
   simp only [Bool.and_eq_true,plain,beq_iff_eq,List.isEmpty_iff] at h;obtain ⟨⟨rfl,rfl⟩,h2⟩:=h
   split at h2
   · exact .un c4 h2
   · cases h2
 rw [if_neg c4] at h
 by_cases c5:8≤k∧k≤23
 · rw [if_pos c5] at h
   simp only [Bool.and_eq_true,plain,beq_iff_eq,List.isEmpty_iff] at h;obtain ⟨⟨rfl,rfl⟩,h2⟩:=h
   split at h2
   · simp only [Bool.and_eq_true] at h2
     exact .bin c5 h2.1 h2.2
   · cases h2
 rw [if_neg c5] at h
 cases h
def Ml (k:Int) (o:Option (List Int)):Int×Int:=match o with
 | none=>(0,6)
 | some c=>if k=2 then if c.length=1 then (c.getD 0 0,0) else (0,7) else if k=4 then if c.length=0 then (0,13) else (c.getD (c.length-1) 0,0) else (c.length,0)
theorem QU {at_:List UInt8→Option (List Int)} {k:Int} {s:List UInt8} (hk:k=2∨k=4∨k=5):Bd at_ (.mk k 0 s [])=Ml k (at_ s):=by
 unfold Bd Ml
 rcases hk with rfl|rfl|rfl
 · simp only [show ¬((2:Int)=1) by decide,if_false,if_true];all_goals (cases at_ s<;>rfl)
 · simp only [show ¬((4:Int)=1) by decide,show ¬((4:Int)=2) by decide,show ¬((4:Int)=3) by decide,if_false,if_true];all_goals (cases at_ s<;>rfl)
 · simp only [show ¬((5:Int)=1) by decide,show ¬((5:Int)=2) by decide,show ¬((5:Int)=3) by decide,show ¬((5:Int)=4) by decide,if_false,if_true];all_goals (cases at_ s<;>rfl)
def Jo (o:Option (List Int)) (r:Int×Int):Int×Int:=match o with
 | none=>(0,6)
 | some c=>if r.2≠0 then (0,r.2) else if r.1<0∨(c.length:Int)≤r.1 then (0,12) else (c.getD r.1.toNat 0,0)
theorem OF {at_:List UInt8→Option (List Int)} {s:List UInt8} {x:Nd}:Bd at_ (.mk 3 0 s [x])=Jo (at_ s) (Bd at_ x):=by
 conv=>lhs;unfold Bd
 unfold Jo
 simp only [show ¬((3:Int)=1) by decide,show ¬((3:Int)=2) by decide,if_false,if_true]
 all_goals (cases at_ s<;>rfl)
theorem Sd {at_:List UInt8→Option (List Int)} {k:Int} {x:Nd} (hk:k=6∨k=7):Bd at_ (.mk k 0 [] [x])=if (Bd at_ x).2≠0 then (0,(Bd at_ x).2) else Gd k (Bd at_ x).1:=by
 conv=>lhs;unfold Bd
 rw [if_neg (by omega),if_neg (by omega),if_neg (by omega),if_neg (by omega),if_neg (by omega)]
theorem QV {at_:List UInt8→Option (List Int)} {k:Int} {x y:Nd} (hk:8≤k∧k≤23):Bd at_ (.mk k 0 [] [x,y])=if (Bd at_ x).2≠0 then (0,(Bd at_ x).2) else if (Bd at_ y).2≠0 then (0,(Bd at_ y).2) else Gc k (Bd at_ x).1 (Bd at_ y).1:=by
 conv=>lhs;unfold Bd
 rw [if_neg (by omega),if_neg (by omega),if_neg (by omega),if_neg (by omega),if_neg (by omega)]
theorem Ni {at_:List UInt8→Option (List Int)} {f:FuncId} {fi:List Value} {I:World→Prop} (hf:CV prog f=true) (HL:Jn at_ f fi I) {k n:Int} (hk:k=2∨k=4∨k=5) (s:List UInt8) (a:Option Addr) (m c:Nat) (w:World) (hI:Keep I w) :
 Calls prog 189 #[.agg #[.int .u8 k,.int .i64 n,str s,.slice a m c],.func (.func f) fi.toArray #[]] w (EvR (Ml k (at_ s)) w):=by
 have X:=Ext.refl w;have HA:=Lib.hid (HL s);clear HL
 generalize at_ s=o at *
 cases o with
 | none=>
  simp only [Option.getD_none,Option.isSome_none] at HA;refine Ad func189 ntmps189 rfl rfl ?_
  focus
   refine cS (eB [_,_,_,_] ?_);intro b1 w2 h4 x5 p6 z7;revert hI X;refine eE x5 ?_;intro hI X;refine eK ?_;refine AQ (BQ (ca:=[]) hf rfl rfl (HA.out _ ‹_›) (fun _ _ h=>h.ret)) rfl ?_ (fun _ h=>h);rintro _ y ⟨a8,⟨c9,⟨⟨⟩,⟨z,⟨A,q⟩⟩⟩⟩⟩;revert h4 hI X;refine eY q ?_;intro B h4 hI X;refine eK ?_;refine AU rfl rfl rfl ?_;rotate_left
  exact ⟨rfl,X⟩
 | some xs=>
  simp only [Option.getD_some,Option.isSome_some] at HA;refine Ad func189 ntmps189 rfl rfl ?_
  focus
   refine cS (eB [_,_,_,_] ?_);intro C D d r E F;revert hI X;refine eE r ?_;intro hI X;refine eK ?_;refine AQ (BQ (ca:=[]) hf rfl rfl (HA.out _ ‹_›) (fun _ _ h=>h.ret)) rfl ?_ (fun _ h=>h);rintro _ t ⟨G,⟨H,⟨⟨⟩,⟨b,⟨u,e⟩⟩⟩⟩⟩;revert d hI X;refine eY e ?_;intro x d hI X;refine eK ?_;refine AO rfl (fun g=>?_) (fun g=>?_);refine eK ?_;refine BS rfl (fun j=>?_) (fun j=>?_);refine eK ?_;refine AU rfl rfl rfl ?_;rotate_left;refine AH (Ai ?_);rotate_left;refine eK ?_;refine AO rfl (fun l=>?_) (fun l=>?_);refine eK ?_;refine AO rfl (fun p=>?_) (fun p=>?_);refine eK ?_;refine AU rfl rfl rfl ?_;rotate_left;refine AH (Ai ?_);rotate_left;refine eK ?_;refine AU rfl rfl rfl ?_;rotate_left
  · exact ⟨by rw [Ml,if_pos ‹_›,if_neg (by omega)],X⟩
  · have hne:xs≠[]:=by rintro rfl;simp at *
    obtain ⟨gb,go,rfl,hr⟩:=b.get hne;have r1:=IntsAt.at hr (i:=0) (by omega);clear hr b
    generalize hv:xs.getD 0 0=v at *
    focus
     refine eK ?_;refine C1 (Pw r1) ?_;refine eK ?_;refine AU rfl rfl rfl ?_;rotate_left
    exact ⟨by rw [Ml,if_pos ‹_›,if_pos (by omega),hv],X⟩
  · exact ⟨by rw [Ml,if_neg (by omega),if_pos ‹_›,if_pos (by omega)],X⟩
  · have hne:xs≠[]:=by rintro rfl;simp at *
    obtain ⟨gb,go,rfl,hr⟩:=b.get hne;have r1:=IntsAt.at hr (i:=((xs.length:Int)-1).toNat) (by omega);clear hr b
    have hj:((xs.length:Int)-1).toNat=xs.length-1:=by omega
    generalize hv:xs.getD ((xs.length:Int)-1).toNat 0=v at *
    rw [hj] at hv
    focus
     refine eK ?_;refine C1 (Bs rfl rfl (IntWalk.i64_in _ (by omega))) (C1 Pi (C1 (G6 r1) ?_));refine eK ?_;refine AU rfl rfl rfl ?_;rotate_left
    exact ⟨by rw [Ml,if_neg (by omega),if_pos ‹_›,if_neg (by omega),hv],X⟩
  · focus
     rotate_left
    exact ⟨by rw [Ml,if_neg (by omega),if_neg (by omega)],X⟩
theorem Se {S:Nat→Prop} {w:World} {x:Nd} {a:Option Addr} (h:rowSits S w [x] a) : ∃b o xa xc,a=some ⟨b,o,none⟩∧S b∧Row w ⟨b,o+0*4,none⟩ (x.cells xa xc)∧x.sits S w xa:=by
 obtain ⟨b,o,e,hS,hk⟩:=Cv h (by simp);obtain ⟨xa,xc,r,s⟩:=hk 0 x rfl
 exact ⟨b,o,xa,xc,e,hS,r,s⟩
theorem Vi {S:Nat→Prop} {w:World} {x y:Nd} {a:Option Addr} (h:rowSits S w [x,y] a) : ∃b o xa xc ya yc,a=some ⟨b,o,none⟩∧S b∧Row w ⟨b,o+0*4,none⟩ (x.cells xa xc)∧x.sits S w xa∧Row w ⟨b,o+1*4,none⟩ (y.cells ya yc)∧y.sits S w ya:=by
 obtain ⟨b,o,e,hS,hk⟩:=Cv h (by simp);obtain ⟨xa,xc,r,s⟩:=hk 0 x rfl;obtain ⟨ya,yc,r',s'⟩:=hk 1 y rfl
 exact ⟨b,o,xa,xc,ya,yc,e,hS,r,s,r',s'⟩
def Vj (at_:List UInt8→Option (List Int)) (f:FuncId) (fi:List Value) (I:World→Prop) (t:Nd):Prop:= ∀(S:Nat→Prop) (a:Option Addr) (c:Nat) (w:World),t.sits S w a→Keep I w→Calls prog 178 #[t.val a c,.func (.func f) fi.toArray #[]] w (EvR (Bd at_ t) w)
theorem Nj {at_:List UInt8→Option (List Int)} {f:FuncId} {fi:List Value} {I:World→Prop} (hf:CV prog f=true) (HL:Jn at_ f fi I) {n:Int} (s:List UInt8) {x:Nd} (HX:Vj at_ f fi I x) (S:Nat→Prop) (a:Option Addr) (c:Nat) (w:World) (hs:rowSits S w [x] a) (hI:Keep I w) :
 Calls prog 189 #[.agg #[.int .u8 3,.int .i64 n,str s,.slice a 1 c],.func (.func f) fi.toArray #[]] w (EvR (Jo (at_ s) (Bd at_ x)) w):=by
 have X:=Ext.refl w;have HA:=Lib.hid (HL s)
 unfold Vj at HX
 replace HX:=Lib.hid HX;obtain ⟨kb,ko,xa,xc,rfl,-,hr,hx⟩:=Se hs;replace hx:=BP _ _ hx;clear HL hs
 generalize Bd at_ x=r at *
 generalize at_ s=o at *
 cases o with
 | none=>
  simp only [Option.getD_none,Option.isSome_none] at HA;refine Ad func189 ntmps189 rfl rfl ?_
  focus
   refine cS (eB [_,_,_,_] ?_);intro b1 w2 h4 x5 p6 z7;revert hI X hr hx;refine eE x5 ?_;intro hI X hr hx;refine eK ?_;refine AQ (BQ (ca:=[]) hf rfl rfl (HA.out _ ‹_›) (fun _ _ h=>h.ret)) rfl ?_ (fun _ h=>h);rintro _ B ⟨a8,⟨c9,⟨⟨⟩,⟨C,⟨D,m⟩⟩⟩⟩⟩;revert h4 hI X hr hx;refine eY m ?_;intro E h4 hI X hr hx;refine eK ?_;refine AU rfl rfl rfl ?_;rotate_left
  exact ⟨rfl,X⟩
 | some xs=>
  simp only [Option.getD_some,Option.isSome_some] at HA;refine Ad func189 ntmps189 rfl rfl ?_
  focus
   refine cS (eB [_,_,_,_] ?_);intro F G d p H J;revert hI X hr hx;refine eE p ?_;intro hI X hr hx;refine eK ?_;refine AQ (BQ (ca:=[]) hf rfl rfl (HA.out _ ‹_›) (fun _ _ h=>h.ret)) rfl ?_ (fun _ h=>h);rintro _ t ⟨K,⟨L,⟨⟨⟩,⟨b,⟨u,e⟩⟩⟩⟩⟩;revert d hI X hr hx;refine eY e ?_;intro y d hI X hr hx;refine eK ?_;refine C7 [_,_,_,_] Aa rfl rfl rfl hr rfl rfl rfl (C1 Mv (cC rfl (HX.out _ _ _ _ ‹_› ‹_›) ?_));rintro _ z ⟨⟨⟩,g⟩;revert b d hI X hr hx;refine eY g ?_;intro A b d hI X hr hx;refine eK ?_;refine BS rfl (fun j=>?_) (fun j=>?_);refine eK ?_;refine AU rfl rfl rfl ?_;rotate_left;refine eK ?_;refine CP rfl rfl rfl (fun k=>?_) (fun k=>?_);refine eK ?_;refine AU rfl rfl rfl ?_;rotate_left;refine eK ?_;refine AO rfl (fun l=>?_) (fun l=>?_);refine eK ?_;refine AU rfl rfl rfl ?_;rotate_left;refine AH (Ai ?_);rotate_left
  · exact ⟨by rw [Jo,if_pos (by omega)],X⟩
  · exact ⟨by rw [Jo,if_neg (by omega),if_pos (Or.inl (by omega))],X⟩
  · exact ⟨by rw [Jo,if_neg (by omega),if_pos (Or.inr (by omega))],X⟩
  · have hne:xs≠[]:=by rintro rfl;simp at *;omega
    obtain ⟨gb,go,rfl,q⟩:=b.get hne;have r1:=IntsAt.at q (i:=r.1.toNat) (by omega)
    generalize hv:xs.getD r.1.toNat 0=v at *
    focus
     refine eK ?_;refine C1 (G6 r1) ?_;refine eK ?_;refine AU rfl rfl rfl ?_;rotate_left
    exact ⟨by rw [Jo,if_neg (by omega),if_neg (by omega),hv],X⟩
theorem Nk {at_:List UInt8→Option (List Int)} {f:FuncId} {fi:List Value} {I:World→Prop} (hf:CV prog f=true) (HL:Jn at_ f fi I) (N:Nat) : ∀(t:Nd),t.size<N→t.isExpr=true→Vj at_ f fi I t:=by
 induction N with
 | zero=>intro t h;omega
 | succ N ih=>
  intro t hN hx;have hsh:=Kh hx;clear hx;intro S a c w hs hI;have X:=Ext.refl w
  cases hsh with
  | num=>
   rename_i n
   have e:Bd at_ (.mk 1 n [] [])=(n,0):=by unfold Bd;rw [if_pos rfl]
   rw [e]
   change Calls prog 178 #[.agg #[.int .u8 1,.int .i64 n,str [],.slice a 0 c],.func (.func f) fi.toArray #[]] w _
   refine Ad func178 ntmps178 rfl rfl ?_
   focus
    refine cS (eB [_,_,_,_] ?_);intro b1 w2 h4 x5 p6 z7;revert hI X hs;refine eE x5 ?_;intro hI X hs;refine eK ?_;refine AU rfl rfl rfl ?_;rotate_left
   exact ⟨rfl,X⟩
  | ref hk hn=>
   rename_i k s
   rw [QU hk];have HV:=Lib.hid (Ni hf HL (n:=0) hk s a 0 c);clear HL ih hs
   generalize Ml k (at_ s)=r at *
   change Calls prog 178 #[.agg #[.int .u8 k,.int .i64 0,str s,.slice a 0 c],.func (.func f) fi.toArray #[]] w _
   refine Ad func178 ntmps178 rfl rfl ?_
   focus
    refine cS (eB [_,_,_,_] ?_);intro aa ab b A ac ad;revert hI X;refine eE A ?_;intro hI X;refine eK ?_;refine AO rfl (fun B=>?_) (fun B=>?_);refine eK ?_;refine Ae [_,_,_,_] Aa rfl rfl rfl b rfl rfl rfl (C1 Mv (cC rfl (HV.out _ ‹_›) ?_));rintro _ J ⟨⟨⟩,C⟩;revert b hI X;refine eY C ?_;intro K b hI X;refine eK ?_;refine AU rfl rfl rfl ?_;rotate_left;refine eK ?_;refine AO rfl (fun j=>?_) (fun j=>?_);refine eK ?_;refine Ae [_,_,_,_] Aa rfl rfl rfl b rfl rfl rfl (C1 Mv (cC rfl (HV.out _ ‹_›) ?_));rintro _ L ⟨⟨⟩,l⟩;revert b hI X;refine eY l ?_;intro M b hI X;refine eK ?_;refine AU rfl rfl rfl ?_;rotate_left;refine eK ?_;refine Ae [_,_,_,_] Aa rfl rfl rfl b rfl rfl rfl (C1 Mv (cC rfl (HV.out _ ‹_›) ?_));rintro _ O ⟨⟨⟩,m⟩;revert b hI X;refine eY m ?_;intro Q b hI X;refine eK ?_;refine AU rfl rfl rfl ?_;rotate_left
   all_goals exact ⟨rfl,X⟩
  | item hn hx=>
   rename_i s x
   rw [OF];simp only [Nd.size,Au] at hN;have HV:=Lib.hid (Nj hf HL (n:=0) s (ih x (by omega) hx) S a c);clear HL ih
   generalize Jo (at_ s) (Bd at_ x)=r at *
   have hs:rowSits S w [x] a:=hs
   change Calls prog 178 #[.agg #[.int .u8 3,.int .i64 0,str s,.slice a 1 c],.func (.func f) fi.toArray #[]] w _
   refine Ad func178 ntmps178 rfl rfl ?_
   focus
    refine cS (eB [_,_,_,_] ?_);intro ae af i o ag ah;revert hI X;refine eE o ?_;intro hI X;clear hs;replace hs:=Bk.rowSits.ext hs o;refine eK ?_;refine Ae [_,_,_,_] Aa rfl rfl rfl i rfl rfl rfl (C1 Mv (cC rfl (HV.out _ ‹_› ‹_›) ?_));rintro _ ai ⟨⟨⟩,D⟩;revert i hI X hs;refine eY D ?_;intro R i hI X hs;refine eK ?_;refine AU rfl rfl rfl ?_;rotate_left
   exact ⟨rfl,X⟩
  | un hk hx=>
   rename_i k x
   rw [Sd hk];simp only [Nd.size,Au] at hN;have HX:=ih x (by omega) hx
   unfold Vj at HX
   replace HX:=Lib.hid HX;obtain ⟨kb,ko,xa,xc,rfl,-,hr,hx⟩:=Se hs;replace hx:=BP _ _ hx;clear HL ih hs
   generalize Bd at_ x=r at *
   change Calls prog 178 #[.agg #[.int .u8 k,.int .i64 0,str [],.slice (some ⟨kb,ko,none⟩) 1 c],.func (.func f) fi.toArray #[]] w _
   refine Ad func178 ntmps178 rfl rfl ?_
   focus
    refine cS (eB [_,_,_,_] ?_);intro aj ak p E al am;revert hI X hr hx;refine eE E ?_;intro hI X hr hx;refine eK ?_;refine C7 [_,_,_,_] Aa rfl rfl rfl hr rfl rfl rfl (C1 Mv (cC rfl (HX.out _ _ _ _ ‹_› ‹_›) ?_));rintro _ an ⟨⟨⟩,F⟩;revert p hI X hr hx;refine eY F ?_;intro T p hI X hr hx;refine eK ?_;refine BS rfl (fun q=>?_) (fun q=>?_);refine eK ?_;refine AU rfl rfl rfl ?_;rotate_left;refine eK ?_;refine cC rfl (TI _ _ _) ?_;rintro _ U ⟨⟨⟩,rfl⟩;refine eK ?_;refine AU rfl rfl rfl ?_;rotate_left
   · exact ⟨by rw [if_pos (by omega)],X⟩
   · exact ⟨by rw [if_neg (by omega)],X⟩
  | bin hk hx hy=>
   rename_i k x y
   rw [QV hk];simp only [Nd.size,Au] at hN;have HX:=ih x (by omega) hx;have HY:=ih y (by omega) hy
   unfold Vj at HX HY
   replace HX:=Lib.hid HX;replace HY:=Lib.hid HY;obtain ⟨kb,ko,xa,xc,ya,yc,rfl,-,hr,hx,d,hy⟩:=Vi hs;replace hx:=BP _ _ hx;replace hy:=BP _ _ hy;clear HL ih hs
   generalize Bd at_ x=r at *
   generalize Bd at_ y=r' at *
   change Calls prog 178 #[.agg #[.int .u8 k,.int .i64 0,str [],.slice (some ⟨kb,ko,none⟩) 2 c],.func (.func f) fi.toArray #[]] w _
   refine Ad func178 ntmps178 rfl rfl ?_
   focus
    refine cS (eB [_,_,_,_] ?_);intro ao ap g G aq ar;revert hI X hr d hx hy;refine eE G ?_;intro hI X hr d hx hy;refine eK ?_;refine C7 [_,_,_,_] Aa rfl rfl rfl hr rfl rfl rfl (C1 Mv (cC rfl (HX.out _ _ _ _ ‹_› ‹_›) ?_));rintro _ au ⟨⟨⟩,H⟩;revert g hI X hr d hx hy;refine eY H ?_;intro V g hI X hr d hx hy;refine eK ?_;refine BS rfl (fun u=>?_) (fun u=>?_);refine eK ?_;refine AU rfl rfl rfl ?_;rotate_left;refine eK ?_;refine C1 (Gb d) (C1 Mv (cC rfl (HY.out _ _ _ _ ‹_› ‹_›) ?_));rintro _ W ⟨⟨⟩,v⟩;revert g hI X hr d hx hy;refine eY v ?_;intro Y g hI X hr d hx hy;refine eK ?_;refine BS rfl (fun z=>?_) (fun z=>?_);refine eK ?_;refine AU rfl rfl rfl ?_;rotate_left;refine eK ?_;refine cC rfl (TJ _ _ _ _) ?_;rintro _ Z ⟨⟨⟩,rfl⟩;refine eK ?_;refine AU rfl rfl rfl ?_;rotate_left
   · exact ⟨by rw [if_pos (by omega)],X⟩
   · exact ⟨by rw [if_neg (by omega),if_pos (by omega)],X⟩
   · exact ⟨by rw [if_neg (by omega),if_neg (by omega)],X⟩
end Bk
