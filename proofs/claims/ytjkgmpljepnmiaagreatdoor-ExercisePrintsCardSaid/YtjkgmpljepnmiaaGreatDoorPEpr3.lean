/- Texts that the proofs of ExercisePrints need. No condition. (Part 3 of 8.) -/
import Derived.Test.YtjkgmpljepnmiaaGreatDoorPEpr2
set_option linter.unusedSimpArgs false
set_option linter.unusedVariables false
set_option linter.defProp false
set_option maxRecDepth 100000
set_option maxHeartbeats 4000000
open Go.Proofs.Tryz
open List renaming length_append->aU,length_cons->aV,getElem_cons_succ->aW,length_nil->aX,getElem?_eq_getElem->aY,set_cons_zero->aZ,getElem_mem->bD,take_succ_eq_append_getElem->bE,take_length->bH,mem_cons->bR,getElem?_eq_none->bS,not_mem_nil->bX,replicate->cB,append_assoc->cF,length_take->cH,flatten_cons->cI,take_append_drop->cL,drop_eq_getElem_cons->cW,all_eq_true->cX,getD_eq_getElem?_getD->dC,getElem?_append_left->dD,take_succ_cons->dE,mem_singleton->dG
open Go.Lib renaming hid->bA,indexByte->dA
open Bool renaming and_eq_true->bB,false_eq_true->dH
open Or renaming inl->bC,inr->bF
open Go.Result renaming andThen->bG
open Nat renaming zero_le->bI,le_refl->bJ,blt->bM,lt_or_ge->bQ,le_trans->cD,le_of_ble_eq_true->cE,eq_of_beq_eq_true->cQ,ble->cY,beq->cZ
open Option.some renaming injEq->bK,inj->bO
open Go.Sem renaming run_bind->bL,run_pure->bW
open Go renaming Calls->bN
open Go.IntWalk renaming i64_in->bT
open Go.Region renaming ready->bU,binds->dB
open Go.Value.slice renaming injEq->bZ
open Go.DataW renaming trod->cG
open Array renaming getElem?_eq_none->cJ
open List.cons renaming injEq->cK
open Prod.mk renaming injEq->cO
open Go.Value renaming slice->cP,ownBlock->cV,bool->dF
open Go.Addr renaming add->cU
open Bk.Ext renaming refl->dI,fr->eX
open Bk.Nd renaming size->dL,kind->dM,kids->dN
open Bk.Blk renaming cell->dP,fr->dQ,ext->dV,row->eC
open Bk.Nd.sits renaming wide->dR,fr->eO
open Bk.Fr renaming refl->eG
open Bk.Value renaming one->eL
open Bk.rowSits renaming fr->fN
namespace Bk
open Go Go.RowKit
structure OwnM {α:Type} (sh:Shape α) (w:wD) (R:nP) (B:Nat) (e:TypeId) (v:Value) (xs:List α):Prop where
 ex : ∃css:List lV,Own w B e sh.sz v xs.length css.flatten/\css.length=xs.length /\ ∀(i:Nat) (x:α) (cs:lV),xs[i]? = some x->css[i]? = some cs->sh.rep w (fun b=>(R b\/B<=b)/\v.ownBlock≠some b) x cs
section
variable {α:Type} {sh:Shape α} {R:nP} {B e:Nat} {w w':wD} {v:Value} {xs:List α}
def OwnM.rows (h:OwnM sh w R B e v xs) (V:xs≠[]) : ∃g cap,v = .slice (some ⟨g,0,none⟩) xs.length cap/\B<=g /\ ∀(i:Nat) (x:α),xs[i]? = some x -> ∃cs,Row w ⟨g,i*sh.sz,none⟩ cs/\sh.rep w (fun b=>R b\/B<=b) x cs:=by
 obtain ⟨f,h1,h2,U⟩:=h.ex;rcases h1.row with ⟨rfl,X,-⟩|⟨g,cap,rfl,Y,Z,hr⟩
 . exact absurd (List.length_eq_zero_iff.1 X) V
 . refine ⟨g,cap,rfl,Y,fun i x L=>?_⟩;have aa:i<xs.length:=by
    rcases bQ i xs.length with h|h
    . exact h
    . rw [bS h] at L;cases L
   have hc:f[i]? = some f[i]:=aY Ab;have E : ∀cs∈f,cs.length=sh.sz:=fun cs M=>by
    obtain ⟨k,hk,rfl⟩:=List.mem_iff_getElem.1 M;exact sh.len (U k xs[k] f[k] (aY Ab) (aY hk))
   obtain ⟨e1,e2⟩:=G4 E (show i<f.length by omega);refine ⟨f[i],fun j u N=>?_,sh.mono (U i x _ L hc) (fun _ h=>h.1) (fun _ _ _ _ h=>h)⟩;have O:j<f[i].length:=by
    rcases bQ j f[i].length with h|h
    . exact h
    . rw [bS h] at N;cases N
   have F:f.flatten[i*sh.sz+j]? = some u:=by
    rw [e1,cF,List.getElem?_append_right Ab,e2,Nat.add_sub_cancel_left,dD O];exact N
   have:=hr.at (i:=i*sh.sz+j) F;have e:(⟨g,i*sh.sz,none⟩:Addr).add j=⟨g,0+(i*sh.sz+j),none⟩:=by unfold cU;by_cases h0:j=0<;>simp [h0]
   rw [e];exact this
end
open Go.Proofs
attribute [local irreducible] Go.Calls
def Ff {P:Program} {n:Nat} {l:Sl} {w:wD} {Q:Exit->Act->wD->Prop} {x y:Code} {ι:Type} (L:ι->Sl) (I:ι->wD->Prop) (h:CW P n x (Exit.then (fun a w=> ∃i,Env n (L i) a/\I i w) Q) l w) (k : ∀i w,I i w->CW P n y Q (L i) w):CW P n x (Exit.then (Code.wp P y Q) Q) l w:=by
 unfold CW at h k ⊢;intro a f;refine Code.wp_mono (fun e a w q=>?_) (h a f);cases e with
 | normal=>
  obtain ⟨i,E,F⟩:=q;exact k i w F a E
 | _=>exact q
def Oc (v:VD):v.cells.length=3:=rfl
def YC (v:VD):v.cells.all eL=true:=rfl
def PB {S:nP} {w:wD} {l:List VD} {a:oA} (h:VDs S w l a):Rows S w (l.flatMap VD.cells) a:=by
 rcases h with h|⟨b,o,h1,f,E⟩
 . subst h;exact bC rfl
 . exact bF ⟨b,o,h1,f,Nc Oc l o (fun i x F=>E i x F)⟩
def LR {S:nP} {w:wD} {l:List VD} {a:oA} (h:Rows S w (l.flatMap VD.cells) a):VDs S w l a:=by
 cases l with
 | nil=>exact bC rfl
 | cons v r=>
  rcases h with h|⟨b,o,h1,f,E⟩
  . simp at h
  . exact bF ⟨b,o,h1,f,fun i x F=>Nf Oc (v::r) o E i x F⟩
def VCopyR (l:List VD) (w:wD):Ending->wD->Prop:=fun e w'=> ∃a c,e = .returned (.slice a l.length c)/\VDs (fun b=>w.heap.size<=b/\b<w'.heap.size) w' l a/\Ext w w'/\l.length<=c
def VCopyR.ret {l:List VD} {w:wD} {e:Ending} {w':wD} (h:VCopyR l w e w') : ∃v,e = .returned v:=by
 obtain ⟨_,_,h,-⟩:=h;exact ⟨_,h⟩
def Q7 {w w':wD} (X:Ext w w'):VCopyR [] w (.returned (.slice none 0 0)) w':=⟨none,0,rfl,bC rfl,X,bJ _⟩
def Q8 {l:List VD} {e B g cap m:Nat} {w w':wD} (f:0+l.length=m) (h:OwnF e 3 B w' g cap m ([]++l.flatMap VD.cells)) (E:w.heap.size<=g) (X:Ext w w'):VCopyR l w (.returned (.slice (some ⟨g,0,none⟩) m cap)) w':=by
 have F:=h.lt;subst f;exact ⟨some ⟨g,0,none⟩,cap,by rw [Nat.zero_add],LR (h.rows ⟨E,F⟩),X,by have:=h.le;omega⟩
def Nj (l:List VD) (hl:l.length<=1000000000) (S:nP) (a:oA) (c:Nat) (w:wD) (E:VDs S w l a) :
 Calls prog 95 #[.slice a l.length c] w (VCopyR l w):=by
 have X:=dI w;have Z:=Hs Oc l;have ho:=KC YC l;cases a with
 | none=>
  have h0:l=[]:=by
   rcases E with h|⟨b,o,h,-⟩
   . exact h
   . cases h
  subst h0;refine Af func95 ntmps95 rfl rfl ?_;refine eK ?_;refine C1 (LH Ac rfl rfl) ?_;refine eK ?_;refine xR ?_;exact Q7 X
 | some p=>
  have E:=(PB E).ltA;refine Af func95 ntmps95 rfl rfl ?_;refine eK ?_;refine C1 (LJ Ac rfl rfl) ?_;refine eK ?_;refine Au (Jq (B:=w.heap.size) Ac rfl rfl Ab) rfl ?_ aFh;rintro _ aa ⟨ab,⟨rfl,⟨ac,⟨ad,⟨ae,L⟩⟩⟩⟩⟩;revert X E;refine eY L ?_;intro af X E;refine C1 Mv ?_;refine Au (Jr Ac CM rfl rfl rfl rfl Bl rfl rfl rfl Ag Ag Z ho Ab) rfl ?_ aFh;rintro _ M ⟨N,⟨F,⟨rfl,⟨O,⟨U,⟨V,f⟩⟩⟩⟩⟩⟩;have Y:=f.size;revert X E;refine eF f ?_;intro X E;refine eK ?_;refine xR ?_;exact Q8 rfl Ag Ab X
end Bk
namespace Bk
open Go Go.RowKit
def WF (r:Option Nat):Fence:={ Fence.wide with round:=r }
section base
variable {P:Program} {r:Option Nat} {m:Nat} {Q:Exit->Act->wD->Prop}
def wf_calls {f:FuncId} {args:Array Value} {w:wD} {R:Ending->wD->Prop}:CallsIn (WF r) m P f args w R↔Calls P f args w R:=callsIn_wide (n:=m)
def Jt {p:Prop} (h:(WF r).depth.isSome=true):p:=by simp [WF,Fence.wide] at h
def WQ {row:String} {args:Array Value} {w:wD} {R:Value->wD->Prop} (h:Go.Rows P row args w R):RowsIn (WF r) m P row args w R:=fun c cs _=>
 let ⟨v,w',hR,hs⟩:=h c cs
 ⟨v,w',hR,stepsIn_wide.2 hs⟩
def Ju (o:Oper):Bool:=match o.op with
 | .defer _=>false
 | _=>true
def UT {o:Oper} (h:Ju o=true) : ∀c,o.op≠.defer c:=fun c e=>by simp [Ju,e] at h
def X0 {o:Oper} {a:Act} {w:wD} {K:Act->wD->Prop} (f:Ju o=true) (h:o.wp P a w K Q):o.wpIn (WF r) m P a w K Q:=by
 refine ⟨fun _ _=>trivial,?_⟩;rw [Oper.semAt_eq _ _ _ (UT f)];unfold Oper.wp at h;generalize (execOp a.eval o).run P w=x at h;cases x with
 | ok v w'=>cases v<;>simp only [Oper.upon] at h<;>simp only [Oper.uponIn]<;>first
  | exact h
  | exact h.elim
  | exact ⟨Jt,wf_calls.2 (Calls.mono h (fun e w h=>by cases e<;>exact h))⟩
  | exact ⟨Jt,WQ h⟩
 | halt v w'=>cases v<;>simp only [Oper.upon] at h<;>simp only [Oper.uponIn]<;>first|exact h|exact h.elim
def Od {ops:Array Oper} (F : ¬LetsOut Q) : ∀(f:List Oper) (a:Act) (w:wD),f.all Ju=true->wpList P ops Q f a w->wpListIn (WF r) m P ops Q f a w
 | [],_,_,_,h=>h
 | o::f,a,w,E,h=>by
  simp only [List.all_cons,bB] at E;unfold wpList at h;unfold wpListIn;by_cases L:Region.wanted o (yielded ops a.tmps)=true
  . rw [AU L] at h ⊢;rcases h with h|h
    . exact Oper.wpIn_mono (fun a w h=>Od F f a w E.2 h) (X0 E.1 h)
    . exact absurd h.2 F
  . rw [AE L] at h ⊢;exact ⟨fun _ _=>trivial,Od F f _ w E.2 h⟩
def CF {K:Act->wD->Prop} (h : ¬LetsOut Q) : ¬LetsOut (Exit.then K Q):=h
def Cl {i:Nat} (h : ¬LetsOut Q) : ¬LetsOut (Exit.inBlock i Q):=h
end base
def CR (P:Program) (n:Nat) (r:Option Nat) (c:Code) (Q:Exit->Act->wD->Prop) (l:Sl) (w:wD):Prop:= ∀a,Env n l a->c.wpIn (WF r) 0 P Q a w
section code
variable {P:Program} {n:Nat} {r:Option Nat} {Q:Exit->Act->wD->Prop} {l:Sl} {w:wD}
def X6 {c:Code} (h:CR P n none c Q l w):CW P n c Q l w:=by unfold CW;exact fun a f=>wpIn_wide.1 (h a f)
def Zq {c:Code} (h:CW P n c Q l w):CR P n none c Q l w:=by unfold CW at h;exact fun a f=>wpIn_wide.2 (h a f)
def FO {x y:Code} (h:CR P n r x (Exit.then (y.wpIn (WF r) 0 P Q) Q) l w):CR P n r (.seq x y) Q l w:=fun a f=>wpIn_seq (h a f)
def EK {y:Code} (h:CR P n r y Q l w):QW n (Exit.then (y.wpIn (WF r) 0 P Q) Q) .normal l w:=by unfold QW;exact h
def Iy (h:QW n Q .normal l w):CR P n r .skip Q l w:=by unfold QW at h;exact fun a f=>wpIn_skip (h a f)
def YD (h:QW n Q .ret l w):CR P n r .ret Q l w:=by unfold QW at h;exact fun a f=>wpIn_ret (h a f)
def Jv {i:Nat} {c:Code} (h:CR P n r c (Exit.inBlock i Q) l w):CR P n r (.block i c) Q l w:=fun a f=>wpIn_block (h a f)
def WR {c:Operand} {x y:Code} {b:Bool} (h:ev l c=some (.bool b)) (E:b=true->CR P n r x Q l w) (F:b=false->CR P n r y Q l w):CR P n r (.cond c x y) Q l w:=
 fun a f=>wpIn_cond_split (f.ev h) (fun e=>E e a f) (fun e=>F e a f)
def Cp {E:Nat} {f:List Oper} (F:f.all Ju=true) (L : ¬LetsOut Q) (h:LW P n f.toArray Q f l w):CR P n r (.region E f.toArray false) Q l w:=by unfold LW at h;exact fun a M=>wpIn_region_lit (Od L f a w F (h a M))
end code
section draw
variable {P:Program} {ops:Array Oper} {Q:Exit->Act->wD->Prop} {S:wD->Prop} {K:Nat}
def G5 (P:Program) (ops:Array Oper) (Q:Exit->Act->wD->Prop) (S:wD->Prop) (K:Nat):Nat->Array Bool->Act->wD->Prop
 | 0,listed,a,w=>bU .any ops listed=[]/\Q .normal a w
 | fuel+1,listed,a,w=>
  (bU .any ops listed=[]->Q .normal a w) /\
  ∀i∈bU .any ops listed,(i<K->wpOp P ops Q i (fun a' w'=>S w'/\G5 P ops Q S K fuel (listed.setIfInBounds i true) a' w') a w) /\
   (K<=i->wpOpIn (WF none) 0 P ops Q i (G5 P ops Q S K fuel (listed.setIfInBounds i true)) a w)
def WS {i:Nat} {a:Act} {w:wD} {G:Act->wD->Prop} (E : ¬LetsOut Q) (F : ∀o,ops[i]? = some o->Ju o=true) (h:wpOp P ops Q i G a w):wpOpIn (WF none) 0 P ops Q i G a w:=by
 unfold wpOp at h;unfold wpOpIn;cases ho:ops[i]? with
 | none=>rw [ho] at h;exact h
 | some o=>
  rw [ho] at h;simp only at h ⊢;by_cases f:Region.wanted o (yielded ops a.tmps)=true
  . rw [AU f] at h ⊢;rcases h with h|h
    . exact X0 (F o ho) h
    . exact absurd h.2 E
  . rw [AE f] at h ⊢;exact ⟨fun _ _=>trivial,h⟩
def G6 (F : ¬LetsOut Q) (L : ∀(i:Nat) (o:Oper),ops[i]? = some o->Ju o=true) : ∀(f:Nat) (E:Array Bool) (a:Act) (w:wD),G5 P ops Q S K f E a w->wpAnyIn (WF none) 0 P .any ops Q f E a w
 | 0,_,_,_,h=>h
 | f+1,_,_,_,h=>⟨h.1,fun i O=>by
  by_cases U:i<K
  . exact wpOpIn_mono (fun M w' N=>G6 F L f _ M w' N.2) (WS F (L i) ((h.2 i O).1 U))
  . exact wpOpIn_mono (fun M w' N=>G6 F L f _ M w' N) ((h.2 i O).2 Ab)⟩
def Oe {i:Nat} {oi:Oper} {v:Value} (hi:ops[i]? = some oi) (hK:i<K) (ad:Gb ops K i) (U : ∀(j:Nat) (o:Oper) cs b,ops[j]? = some o->o.op≠.select cs b)
 (hQ : ∀c a w,Q (.panic c) (a.put oi.dst v) w->Q (.panic c) a w) :
 ∀(E:Nat) (f:Array Bool) (a:Act) (w:wD),DC ops f ->
  (∀j V,ops[j]? = some V->j≠i->f.getD j true=false->(∀e∈V.after,dB .any e=true->e.on≠i)->oi.apart ops V=true) ->
  i∈bU .any ops f->YieldsIf P ops S oi v a->S w ->
  G5 P ops Q S K E (f.setIfInBounds i true) (a.put oi.dst v) w->G5 P ops Q S K (E+1) f a w:=by
 intro E
 induction E with
 | zero=>
  intro f a w _ _ Z hy hS H;refine ⟨fun h=>(by rw [h] at Z;cases Z),fun j hj=>?_⟩;by_cases F:j=i
  . subst F;exact ⟨fun _=>hy.wpOp hi hS ⟨hS,H⟩,fun h=>by omega⟩
  . have:=ready_mono hj F;rw [H.1] at this;cases this
 | succ E ih=>
  intro f a w aa L Z hy hS H;refine ⟨fun h=>(by rw [h] at Z;cases Z),fun j hj=>?_⟩;by_cases F:j=i
  . subst F;exact ⟨fun _=>hy.wpOp hi hS ⟨hS,H⟩,fun h=>by omega⟩
  . obtain ⟨X,V,N,Y⟩:=mem_ready.1 hj;have M : ¬f.getD i false=true:=fun hc=>by
     have h0:=(mem_ready.1 Z).1;rcases bQ i f.size with h'|h'
     . simp [h'] at h0 hc;rw [h0] at hc;cases hc
     . simp [cJ h'] at hc
    have ae:j<K:=by
     rcases bQ j K with h|h
     . exact h
     . exact absurd (ad f j V aa h N Y) M
    have h1:=(H.2 j (ready_mono hj F)).1 ae;have ab : ∀e∈V.after,dB .any e=true->e.on≠i:=fun e he hb af=>M (af▸Y e he hb)
    have h2:=wpOp_putIf N (L j V N F X ab) (fun cs b=>U i oi cs b hi) (fun cs b=>U j V cs b N) hQ hy h1;have O : ∀k ok,ops[k]? = some ok->k≠i->(f.setIfInBounds j true).getD k true=false ->
     (∀e∈ok.after,dB .any e=true->e.on≠i)->oi.apart ops ok=true:=fun k ok hk ag M ah=>by
     refine L k ok hk ag ?_ ah;by_cases ac:j=k
     . subst ac;exact X
     . rw [getD_set_ne true ac] at M;exact M
    refine ⟨fun _=>wpOp_mono (fun a' w' h3=>⟨h3.2.1,ih (f.setIfInBounds j true) a' w' (aa.set hj) O (ready_mono Z (Ne.symm F)) h3.1 h3.2.1 ?_⟩) h2,fun h=>by omega⟩;rw [Array.setIfInBounds_comm _ _ F];exact h3.2.2
def HM (P:Program) (ops:Array Oper) (Q:Exit->Act->wD->Prop) (S:wD->Prop) (K:Nat):Sc->Act->wD->Prop
 | .done,a,w=>Q .normal a w
 | .pure i r,a,w=> ∃o v,ops.toList[i]? = some o/\YieldsIf P ops S o v a/\HM P ops Q S K r (a.put o.dst v) w
 | .fork i x r,a,w=>i<K/\wpOp P ops Q i (fun a' w'=>S w'/\HM P ops Q S K x a' w') a w/\HM P ops Q S K r a w
 | .none,_,_=>True
 | .tail,a,w=>wpListIn (WF none) 0 P ops Q (ops.toList.drop K) a w
def I2 : ∀(f k:Nat) (E:Array Bool) (a:Act) (w:wD),K<=k->f+k=ops.size->Hi ops f k E=true->wpListIn (WF none) 0 P ops Q (ops.toList.drop k) a w->G5 P ops Q S K f E a w
 | 0,k,E,a,w,O,U,F,h=>by
  have:ops.toList.drop k=[]:=List.drop_eq_nil_of_le (by simp;omega);rw [this] at h;exact ⟨by simpa [Hi] using F,h⟩
 | f+1,k,E,a,w,O,U,F,h=>by
  simp only [Hi,bB,beq_iff_eq] at F;have L:k<ops.toList.length:=by simp;omega
  rw [cW L] at h;refine ⟨fun e=>absurd (F.1.symm.trans e) Bd,fun i M=>?_⟩;rw [F.1] at M;simp only [dG] at M;subst M;refine ⟨fun h=>by omega,fun _=>?_⟩;have V:ops[i]? = some ops.toList[i]:=by simp
  unfold wpListIn at h;unfold wpOpIn;rw [V];simp only;split
  . rename_i N;rw [AU N] at h;exact Oper.wpIn_mono (fun X w' Y=>I2 f (i+1) _ X w' Ab Ab F.2 Y) h
  . rename_i N;rw [AE N] at h;exact ⟨h.1,I2 f (i+1) _ _ w Ab Ab F.2 h.2⟩
def HM.any (Y:Region.noSelect ops=true) (M : ∀i,i<K->Gb ops K i) (Z:DV Q) :
 ∀(s:Sc) (f:Nat) (E:Array Bool) (a:Act) (w:wD),DC ops E->S w->HM P ops Q S K s a w ->
  (Sc.ok ops K true s f E=true->G5 P ops Q S K f E a w) /\
  (Sc.ok ops K false s f E=true -> ∀i∈s.alts,∀f',f=f'+1->i<K/\wpOp P ops Q i (fun X w'=>S w'/\G5 P ops Q S K f' (E.setIfInBounds i true) X w') a w)
 | .done,f,E,a,w,L,N,h=>by
  refine ⟨fun F=>?_,fun F=>by simp [Sc.ok] at F⟩;have U:bU .any ops E=[]:=by simpa [Sc.ok] using F
  cases f with
  | zero=>exact ⟨U,h⟩
  | succ f=>exact ⟨fun _=>h,by rw [U];simp⟩
 | .none,f,E,a,w,L,N,h=>⟨fun F=>by simp [Sc.ok] at F,fun F=>by simp [Sc.alts]⟩
 | .tail,f,E,a,w,L,N,h=>⟨fun F=>by
  simp only [Sc.ok,bB] at F;exact I2 f K E a w (bJ _) (cQ F.1) F.2 h,fun F=>by simp [Sc.ok] at F⟩
 | .pure i r,0,E,a,w,L,N,h=>⟨fun F=>by simp [Sc.ok] at F,fun F=>by simp [Sc.ok] at F⟩
 | .pure i r,f+1,E,a,w,L,N,h=>⟨fun F=>by
  simp only [Sc.ok,bB] at F;obtain ⟨o,v,ho,hy,U⟩:=h;have hi:ops[i]? = some o:=by simpa using ho
  have O:i∈bU .any ops E:=by simpa using F.1.1.2
  exact Oe hi (cE F.1.1.1) (M i (cE F.1.1.1)) (Region.noSelect_spec Y) (fun c a w=>Z o.dst v c a w) f E a w L (Region.free_spec hi F.1.2) O hy N
   ((HM.any Y M Z r f _ _ w (L.set O) N U).1 F.2),fun F=>by simp [Sc.ok] at F⟩
 | .fork i x r,0,E,a,w,L,N,h=>⟨fun F=>by simp [Sc.ok] at F,fun F=>by simp [Sc.ok] at F⟩
 | .fork i x r,f+1,E,a,w,L,N,h=>by
  have key:i∈bU .any ops E->Sc.ok ops K true x f (E.setIfInBounds i true)=true->wpOp P ops Q i (fun X w'=>S w'/\G5 P ops Q S K f (E.setIfInBounds i true) X w') a w:=fun O F=>
   wpOp_mono (fun X w' h'=>⟨h'.1,(HM.any Y M Z x f _ X w' (L.set O) h'.1 h'.2).1 F⟩) h.2.1
  have U:=HM.any Y M Z r (f+1) E a w L N h.2.2;refine ⟨fun F=>?_,fun F j V f' hf=>?_⟩
  . simp only [Sc.ok,bB] at F;obtain ⟨⟨⟨h1,h4⟩,h2⟩,h3⟩:=F;refine ⟨fun e=>by rw [e] at h4;simp at h4,fun j V=>?_⟩;have:=cX.1 h1 j V;simp only [List.contains_eq_mem,bR,decide_eq_true_eq] at this;rcases this with rfl|aa
    . exact ⟨fun _=>key V h2,fun hK=>absurd h.1 Ab⟩
    . obtain ⟨k1,k2⟩:=U.2 h3 j aa f rfl;exact ⟨fun _=>k2,fun hK=>by omega⟩
  . simp only [Sc.ok,bB] at F;obtain rfl:f=f':=by omega
    simp only [Sc.alts,bR] at V;rcases V with rfl|V
    . exact ⟨h.1,key (by simpa using F.1.1) F.1.2⟩
    . exact U.2 F.2 j V f rfl
end draw
def MW (P:Program) (n:Nat) (ops:Array Oper) (Q:Exit->Act->wD->Prop) (S:wD->Prop) (K:Nat) (s:Sc) (l:Sl) (w:wD):Prop:= ∀a,Env n l a->HM P ops Q S K s a w
def LI (P:Program) (n:Nat) (ops:Array Oper) (Q:Exit->Act->wD->Prop) (os:List Oper) (l:Sl) (w:wD):Prop:= ∀a,Env n l a->wpListIn (WF none) 0 P ops Q os a w
section draws
variable {P:Program} {n:Nat} {ops:Array Oper} {Q:Exit->Act->wD->Prop} {S:wD->Prop} {K:Nat} {l:Sl} {w:wD}
 {d i:Nat} {ty:TypeId} {pos:String} {after:Array Edge} {r x:Sc} {rest:List Oper}
def UU {U:Nat} {f:List Oper} (S:wD->Prop) (K:Nat) (s:Sc) (V:P.follows .mixedOrders=true) (E:(Region.noSelect f.toArray&&Ls f.toArray K&&bM K f.length&&f.all Ju&&Sc.ok f.toArray K true s f.length (Array.replicate f.length false))=true) (X:DV Q) (Y : ¬LetsOut Q)
 (h : ∀F,Ext w F->F.heap=w.heap->S F/\MW P n f.toArray Q S K s l F):CW P n (.region U f.toArray true) Q l w:=by
 refine X6 fun a Z=>?_
 simp only [bB] at E;obtain ⟨h1,h2⟩:=h w.drew (dI w).drew rfl;have L : ∀i,i<K->Gb f.toArray K i:=Gc E.1.1.1.2 (by have:=cE E.1.1.2;simp;omega);have M:DC f.toArray (Array.replicate f.length false):=fun k o _ O=>by
  exfalso;rcases bQ k f.length with N|N
  . simp [N] at O
  . simp [cJ,N] at O
 refine wpIn_region_any V (G6 (S:=S) (K:=K) Y (fun i o ho=>cX.1 E.1.2 o (List.mem_of_getElem? (by simpa using ho))) _ _ _ _ ?_);have:=(HM.any E.1.1.1.1 L X s f.length (Array.replicate f.length false) a w.drew M h1 (h2 a Z)).1 E.2;simpa using this
def WT {f:List Oper} (E:Lv K ops.toList=some f) (h:LI P n ops Q f l w):MW P n ops Q S K .tail l w:=by
 unfold LI at h;intro a F;show wpListIn _ _ P ops Q (ops.toList.drop K) a w;rw [GU E];exact h a F
def Sa:MW P n ops Q S K .none l w:=fun _ _=>trivial
def Of {op:Op} {v:Value} (E:ops.toList[i]? = some ⟨some d,op,ty,pos,after,none⟩) (f:BA P n l S op ty v) (F:bM d n=true) (k:MW P n ops Q S K r ((d,v)::l) w) :
 MW P n ops Q S K (.pure i r) l w:=by
 unfold BA at f;exact fun a h=>⟨_,v,E,bC ⟨rfl,fun w L=>f a w _ _ _ _ h L⟩,k _ (h.put F v)⟩
def Sb {op:Op} {E:Option Value->wD->Prop} (U:ops.toList[i]? = some ⟨some d,op,ty,pos,after,none⟩) (F:bM i K=true) (N:Cr P n l op ty w E) (V:bM d n=true)
 (k : ∀v f,E (some v) f->S f/\MW P n ops Q S K x ((d,v)::l) f) (X : ∀f,¬E none f) (Y:MW P n ops Q S K r l w):MW P n ops Q S K (.fork i x r) l w:=fun a L=>by
 unfold Cr at N;refine ⟨cE F,?_,Y a L⟩;have M:ops[i]? = some ⟨some d,op,ty,pos,after,none⟩:=by simpa using U
 unfold wpOp;rw [M];simp only;rw [AU (B0 rfl)];left;exact N a _ _ _ _ _ _ L (fun v f O=>⟨(k v f O).1,(k v f O).2 _ (L.put V v)⟩) (fun f h=>absurd h (X f))
def Zr {f:List Oper} (E : ¬LetsOut Q) (F:f.all Ju=true) (h:LW P n ops Q f l w):LI P n ops Q f l w:=by unfold LW at h;exact fun a L=>Od E f a w F (h a L)
def UV {y:Nat} {x:Operand} {xs:List Operand} {L:Array TypeId} {vs:lV} {R:Ending->wD->Prop} (O:ev l x=some (.func (.yield y) #[] #[])) (M:evs l xs=some vs) (Y:YieldAt (WF none) 0 P y vs.toArray w R) (U : ∀e E,R e E -> ∃v,e = .returned v) (V:bM d n=true)
 (k : ∀v E,R (.returned v) E->LI P n ops Q rest ((d,v)::l) E):LI P n ops Q (⟨some d,.call ⟨.value x,xs.toArray,L⟩,ty,pos,after,none⟩::rest) l w:=fun a N=>by
 obtain ⟨fn,tmps,f,body,X,Z⟩:=Y;have F:xs.map a.eval=vs:=N.evs M;have e:(execOp a.eval ⟨some d,.call ⟨.value x,xs.toArray,L⟩,ty,pos,after,none⟩).run P w = .ok (.round y fn tmps f body) w:=by
  simp only [execOp,resolve,N.ev O,Deferred.ofValue,bL,bW,bG,invoke];simpa [<-F] using X
 unfold wpListIn;rw [AU (B0 rfl)];refine ⟨fun _ _=>trivial,?_⟩;rw [Oper.semAt_eq _ _ _ (fun c e=>by cases e),e];refine ⟨Jt,RoundIn.mono Z fun e E h=>?_⟩;obtain ⟨v,rfl⟩:=U e E h;exact k v E h _ (N.put V v)
end draws
def MO {α:Type} (c:Nat) (J:(nP)->List α->wD->Prop):Prop:=
 ∀A A' xs W W',J A xs W->Fr A W W'->(∀k,A k->c<=k)->(∀k,A' k->c<=k)->(∀k,k<W.heap.size->A' k->A k)->J A' xs W'
def Keeps (S:nP) (W W':wD):Prop:=Fr (fun k=> ¬S k) W W'
def Keeps.size {S:nP} {W f:wD} (h:Keeps S W f):W.heap.size<=f.heap.size:=Fr.size h
def Keeps.block {S:nP} {W f:wD} (h:Keeps S W f) (k:Nat) (E:S k) (F:k<W.heap.size):f.heap[k]? = W.heap[k]? := Fr.block h k F (fun e=>e E)
def Keeps.trans {S:nP} {A B C:wD} (h:Keeps S A B) (k:Keeps S B C):Keeps S A C:=Fr.trans h k
def Keeps.of_fr {S T:nP} {A B:wD} (h:Fr T A B) (f : ∀k,S k -> ¬T k):Keeps S A B:=⟨h.os,h.tape,h.output,h.size,fun k E F=>h.block k E (f k (Classical.not_not.1 F))⟩
def Keeps.of_ext {S:nP} {A B:wD} (h:Ext A B):Keeps S A B:=⟨h.os,h.tape,h.output,h.size,fun _ f _=>h.block f⟩
def Keeps.less {S T:nP} {A B:wD} (h:Keeps S A B) (f : ∀k,T k->S k):Keeps T A B:=⟨Fr.os h,Fr.tape h,Fr.output h,Fr.size h,fun k E F=>Fr.block h k E (fun e=>F (fun t=>e (f k t)))⟩
def Og {α:Type} (P:Program) (gf:Nat) (lb:lV) (rep:Nat->wD->lV->α->Prop) (Rt:nP) (S:List α) (w:wD):Prop:=
 ∀(y:Nat) (J Jx:(nP)->List α->wD->Prop) (W:wD),Keeps Rt w W->MO W.heap.size J->MO W.heap.size Jx ->
  (∀A pre x vs W1,(∀k,A k->W.heap.size<=k/\k<W1.heap.size)->J A pre W1->rep W.heap.size W1 vs x->(pre++[x]) <+: S ->
   YieldAt (WF none) 0 P y vs.toArray W1 fun e W2=>Keeps (fun k=>A k\/Rt k) W1 W2/\((e = .returned (.bool true)/\J A (pre++[x]) W2)\/(e = .returned (.bool false)/\Jx A (pre++[x]) W2))) ->
  J (fun _=>False) [] W ->
  Calls P gf (.func (.yield y) #[] #[]::lb).toArray W fun e W'=>(∃v,e = .returned v) /\ ∃A,(∀k,A k->W.heap.size<=k)/\(J A S W' \/ ∃pre,pre <+: S/\Jx A pre W')
def Tp {W:wD} {r:Nat} {o f:Obj} (h:W.heap[r]? = some o):Fr (fun k=>k=r) W (W.putObj r f):=
 ⟨rfl,rfl,rfl,Bd,fun k _ E=>World.putObj_heap_other E⟩
def Hx {α:Type} (Kp:nP) (J Jx:(nP)->List α->wD->Prop) (A:nP) (xs:List α) (W:wD):Exit->Act->wD->Prop
 | .normal,_,W'=>Keeps Kp W W'/\J A xs W'
 | .ret,_,W'=>Keeps Kp W W'/\Jx A xs W'
 | _,_,_=>False
def DD {α:Type} {Kp:nP} {J Jx:(nP)->List α->wD->Prop} {A:nP} {xs:List α} {W:wD} : ¬LetsOut (Hx Kp J Jx A xs W):=fun ⟨_,_,h⟩=>h
def PE {P:Program} {fn:Func} {R:Ending->wD->Prop} (h : ∀w,¬R .outgrown w) : ¬LetsOut (bodyPost P fn R):=fun ⟨_,w,e⟩=>h w e
def Q9 {α:Type} {P:Program} {g:Operand} {ps:Array Tmp} {assign body:Code} {Q:Exit->Act->wD->Prop} {a:Act} {w:wD} {gf:Nat} {lb:lV} {rep:Nat->wD->lV->α->Prop} {Rt:nP} {S:List α}
 (hg:a.eval g = .func (.func gf) #[] lb.toArray) (eg:Fl P gf=true) (hit:Og P gf lb rep Rt S w) (hps : ∀c W vs x,rep c W vs x->vs.length=ps.size) (hRt : ∀k,Rt k->k<w.heap.size)
 (J Jx:(nP)->List α->wD->Prop) (hJ:MO w.heap.size J) (hJx:MO w.heap.size Jx) (h0:J (fun _=>False) [] w)
 (hround : ∀r A pre x vs W,(∀k,A k->w.heap.size<=k/\k<W.heap.size)->A (w.heap.size+1)->J A pre W->rep (w.heap.size+2) W vs x->(pre++[x]) <+: S ->
  assign.wpIn (WF (some r)) 0 P (Exit.then (fun a₁ W₁=>Keeps (fun k=>A k\/Rt k) W W₁ /\ ∀W₂,Fr (fun k=>k=w.heap.size+1) W₁ W₂->body.wpIn (WF (some r)) 0 P (Hx (fun k=>A k\/Rt k) J Jx A (pre++[x]) W₂) a₁ W₂) (fun _ _ _=>False))
   { tmps:=(ps.zip vs.toArray).foldl (fun t (p,v)=>t.setIfInBounds p v) a.tmps,defers:=[] } W)
 (hdone : ∀A W,(∀k,A k->w.heap.size<=k)->J A S W->A w.heap.size->W.heap[w.heap.size]? = some (.deferred (some []))->Q .normal { a with defers:={ target:=.collected w.heap.size,args:= #[] }::a.defers } W)
 (hstop : ∀A pre W,(∀k,A k->w.heap.size<=k)->pre <+: S->Jx A pre W->A w.heap.size->W.heap[w.heap.size]? = some (.deferred (some []))->Q .ret { a with defers:={ target:=.collected w.heap.size,args:= #[] }::a.defers } W) :
 (Code.rangeFunc g ps assign body).wpIn (WF none) 0 P Q a w:=by
 refine wpIn_rangeFunc ?_;intro fn hfn
 show ∃l mark w₁ d w₁' f args w₂,(Instr.enterLoop fn a.tmps ps assign body none).run P w = .ok (l,mark) w₁/\_
 obtain ⟨n,hn⟩ : ∃n,n=w.heap.size:=⟨_,rfl⟩;rw [<-hn] at hJ hJx hround hdone hstop
 obtain ⟨rec,hrec⟩ : ∃rec:LoopState->Option Code->Loop,rec=fun st pe=>{ state:=st,pending:=pe,fn,tmps:=a.tmps,params:=ps,assign,body,defers:=n }:=⟨_,rfl⟩
 obtain ⟨W1,hW1⟩ : ∃W1,(w.alloc (.deferred (some []))).alloc (.loop (rec .ready none))=W1:=⟨_,rfl⟩
 have hL1:W1.heap[n+1]? = some (.loop (rec .ready none)):=by
  rw [<-hW1,hn];have:=World.alloc_heap_new (w.alloc (.deferred (some []))) (.loop (rec .ready none));rwa [World.size_alloc] at this
 have hK1:W1.heap[n]? = some (.deferred (some [])):=by
  rw [<-hW1,hn];exact (Below.heap_alloc _ _ _ (by simp)).trans (World.alloc_heap_new w _)
 have hX1:Ext w W1:=by rw [<-hW1];exact (((dI w).alloc _).alloc _)
 have hS1:W1.heap.size=n+2:=by rw [<-hW1];simp [hn]
 let U:(nP)->nP:=fun A k=>A k\/k=n\/k=n+1
 have hU : ∀ {A:nP},(∀k,A k->n+2<=k) -> ∀k,U A k->n<=k:=fun h k hk=>by
  rcases hk with hk|hk|hk
  . have:=h k hk;omega
  . omega
  . omega
 have hput : ∀ {A:nP} {G:(nP)->List α->wD->Prop} {xs:List α} {W:wD} {o o':Obj} {k:Nat},MO n G->(∀k,A k->n+2<=k)->k=n+1->G (U A) xs W->W.heap[k]? = some o->G (U A) xs (W.putObj k o'):=
  fun hG hA hk h ho=>hG _ _ _ _ _ h ⟨rfl,rfl,rfl,by simp,fun i _ hi=>World.putObj_heap_other (fun e=>hi (bF (bF (e.trans hk))))⟩ (hU hA) (hU hA) (fun _ _ h=>h)
 have hstab : ∀ {G:(nP)->List α->wD->Prop} {st:LoopState} {pe:Option Code},MO n G->MO (n+2) (fun A pre W=>G (U A) pre W/\W.heap[n+1]? = some (.loop (rec st pe))/\W.heap[n]? = some (.deferred (some []))):=
  fun hG A A' xs W W' h hf hA hA' hs=>by
   have hlt:n+1<W.heap.size:=(Array.getElem?_eq_some_iff.1 h.2.1).1;refine ⟨hG _ _ _ _ _ h.1 ⟨hf.os,hf.tape,hf.output,hf.size,fun k hk hU=>hf.block k hk (fun e=>hU (bC e))⟩ (hU hA) (hU hA') (fun k hk h=>?_),(hf.block _ hlt (fun e=>by have:=hA _ e;omega)).trans h.2.1,(hf.block _ (by omega) (fun e=>by have:=hA _ e;omega)).trans h.2.2⟩
   rcases h with h|h
   . exact bC (hs k hk h)
   . exact bF h
 refine ⟨n+1,[{ target:=.collected n,args:= #[] }],W1,{ target:=.fn (.func gf) lb.toArray,args:= #[.func (.yield (n+1)) #[] #[]] },W1,gf,
  (.func (.yield (n+1)) #[] #[]::lb).toArray,W1,?_,?_,fun _ _=>trivial,?_,Jt,?_⟩
 . rw [<-hW1,hrec,hn];exact run_enterLoop_outer _ _ _ _ _
 . simp only [resolve,hg]
   simp [go_sem]
 . simp only [invoke,bL,GP eg,bG,bW]
   simp
 . refine wf_calls.2 (Calls.mono (hit (n+1) (fun A pre W=>J (U A) pre W/\W.heap[n+1]? = some (.loop (rec .ready none))/\W.heap[n]? = some (.deferred (some [])))
    (fun A pre W=>Jx (U A) pre W/\W.heap[n+1]? = some (.loop (rec .done (some .ret)))/\W.heap[n]? = some (.deferred (some []))) W1 (Keeps.of_ext hX1) (by rw [hS1];exact hstab hJ) (by rw [hS1];exact hstab hJx) ?_ ⟨?_,hL1,hK1⟩) ?_)
   ·
    rw [hS1];rintro A pre x vs W hA ⟨hi,hl,hk⟩ hrep hpre;have hlt:n+1<W.heap.size:=(Array.getElem?_eq_some_iff.1 hl).1;have hy:=run_yield (P:=P) (args:=vs.toArray) hl (by rw [hrec];simpa using hps _ W vs x hrep);rw [hrec] at hy
    have hUA : ∀k,U A k->n<=k/\k<W.heap.size:=fun k hk=>by
     rcases hk with hk|hk|hk
     . have:=hA k hk;omega
     . omega
     . omega
    refine ⟨fn,_,assign,body,hy,roundIn_of_wpIn (F:=WF none) hfn (wpIn_mono (hround (n+1) (U A) pre x vs W hUA (bF (bF rfl)) hi hrep hpre) ?_)⟩;rintro e a₁ V₁ hp
    cases e with
    | normal=>
     obtain ⟨hk1,hb⟩:=hp;have hl1:V₁.heap[n+1]? = some (.loop (rec .ready none)):=(hk1.block _ (bC (bF (bF rfl))) hlt).trans hl;have hk1':V₁.heap[n]? = some (.deferred (some [])):=(hk1.block _ (bC (bF (bC rfl))) (by omega)).trans hk;refine ⟨_,run_beginRound hl1 (by rw [hrec]),wpIn_mono (hb _ (Tp hl1)) ?_⟩;have hlt1:n+1<V₁.heap.size:=(Array.getElem?_eq_some_iff.1 hl1).1;obtain ⟨V₂,hV₂⟩ : ∃V₂,V₁.putObj (n+1) (.loop { rec .ready none with state:=.busy })=V₂:=⟨_,rfl⟩;rw [hV₂]
     have hl2:V₂.heap[n+1]? = some (.loop { rec .ready none with state:=.busy }):=by rw [<-hV₂];exact World.putObj_heap_same hlt1
     have hk2:V₂.heap[n]? = some (.deferred (some [])):=by rw [<-hV₂];exact (World.putObj_heap_other (by omega)).trans hk1'
     have hs2:V₂.heap.size=V₁.heap.size:=by rw [<-hV₂];simp
     have hkeep : ∀ {V₃:wD} {o:Obj},Keeps (fun k=>U A k\/Rt k) V₂ V₃->Keeps (fun k=>A k\/Rt k) W (V₃.putObj (n+1) o):=fun hk3=>⟨(Fr.os hk3).trans ((show V₂.os=V₁.os by rw [<-hV₂];rfl).trans (Fr.os hk1)),(Fr.tape hk3).trans ((show V₂.tape=V₁.tape by rw [<-hV₂];rfl).trans (Fr.tape hk1)),(Fr.output hk3).trans ((show V₂.output=V₁.output by rw [<-hV₂];rfl).trans (Fr.output hk1)),by have:=hk1.size;have:=hk3.size;simp;omega,fun k hlt hkk=>by
      have hk:=Classical.not_not.1 hkk
      have hne:k≠n+1:=fun e=>by
       subst e
       rcases hk with hk|hk
       . have:=hA _ hk;omega
       . have:=hRt _ hk;omega
      have hk':U A k\/Rt k:=hk.imp bC id;rw [World.putObj_heap_other hne,hk3.block k hk' (by have:=hk1.size;omega),<-hV₂,World.putObj_heap_other hne]
      exact hk1.block k hk' hlt⟩
     have fin : ∀(jump:Option Code) (V₃:wD),Keeps (fun k=>U A k\/Rt k) V₂ V₃ ->
      (Instr.endRound (n+1) jump).run P V₃ = .ok (.bool jump.isNone) (V₃.putObj (n+1) (.loop (rec (if jump.isNone then .ready else .done) jump))) /\
      V₃.heap[n+1]? = some (.loop { rec .ready none with state:=.busy }) /\
      (V₃.putObj (n+1) (.loop (rec (if jump.isNone then .ready else .done) jump))).heap[n+1]? = some (.loop (rec (if jump.isNone then .ready else .done) jump)) /\
      (V₃.putObj (n+1) (.loop (rec (if jump.isNone then .ready else .done) jump))).heap[n]? = some (.deferred (some [])):=fun jump V₃ hk3=>by
      have hl3:V₃.heap[n+1]? = some (.loop { rec .ready none with state:=.busy }):=(hk3.block _ (bC (bF (bF rfl))) (by omega)).trans hl2;have:=run_endRound (P:=P) jump hl3;rw [hrec] at this ⊢
      exact ⟨this,by rw [hrec] at hl3;exact hl3,World.putObj_heap_same (Array.getElem?_eq_some_iff.1 hl3).1,(World.putObj_heap_other (by omega)).trans ((hk3.block _ (bC (bF (bC rfl))) (by omega)).trans hk2)⟩
     rintro e a₃ V₃ hp
     cases e with
     | normal=>
      obtain ⟨hk3,hi3⟩:=hp;obtain ⟨hr,hl3,hl4,hk4⟩:=fin none V₃ hk3
      exact ⟨_,_,hr,hkeep hk3,.inl ⟨rfl,hput hJ (fun k hk=>(hA k hk).1) rfl hi3 hl3,hl4,hk4⟩⟩
     | ret=>
      obtain ⟨hk3,hi3⟩:=hp;obtain ⟨hr,hl3,hl4,hk4⟩:=fin (some .ret) V₃ hk3
      exact ⟨_,_,hr,hkeep hk3,.inr ⟨rfl,hput hJx (fun k hk=>(hA k hk).1) rfl hi3 hl3,hl4,hk4⟩⟩
     | exit id=>exact hp.elim
     | goto t=>exact hp.elim
     | panic ch=>exact hp.elim
     | outgrown=>exact hp.elim
    | exit id=>exact hp.elim
    | goto t=>exact hp.elim
    | ret=>exact hp.elim
    | panic ch=>exact hp.elim
    | outgrown=>exact hp.elim
   . refine hJ _ _ _ _ _ h0 ⟨hX1.os,hX1.tape,hX1.output,hX1.size,fun k hk _=>hX1.block hk⟩ (fun _ h=>h.elim) (hU fun _ h=>h.elim) (fun k hk h=>?_)
     rcases h with h|h|h
     . exact h
     . omega
     . omega
   ·
    rw [hS1];rintro e W2 ⟨⟨v,rfl⟩,A,hA,(⟨hi,hl,hk⟩|⟨pre,hpre,hi,hl,hk⟩)⟩
    . exact ⟨none,_,by have:=run_endLoop (P:=P) hl (by rw [hrec];simp);rw [hrec] at this;exact this,hdone (U A) _ (hU hA) (hput hJ hA rfl hi hl) (bF (bC rfl)) ((World.putObj_heap_other (by omega)).trans hk)⟩
    . exact ⟨some .ret,_,by have:=run_endLoop (P:=P) hl (by rw [hrec];simp);rw [hrec] at this;exact this,wpIn_ret (hstop (U A) pre _ (hU hA) hpre (hput hJx hA rfl hi hl) (bF (bC rfl)) ((World.putObj_heap_other (by omega)).trans hk))⟩
section
variable {P:Program} {n:Nat} {l:Sl} {S:wD->Prop} {tab:Tab} {ty:TypeId}
def Jw {x y:Operand} {t e E sz len cap m:Nat} {sE:Sk} {a:oA} {k:IntKind} {M:Int} (T:TabOk P tab) (U:AD tab t=some (.slice e,E)) (V:AD tab e=some (sE,sz)) (X:ev l x=some (.slice a len cap)) (Y:ev l y=some (.int k M)) (F:M=(m:Int)) (hm:m<=cap) :
 BA P n l S (.slice t x none (some y) none) ty (.slice a m cap):=by
 subst F;unfold BA;intro Z w aa pos after g N _;have O:P.underlying t=some (.slice e):=(T _ _ _ U).under;have f:P.elem t=e:=by simp [Program.elem,O]
 have h:P.underlying t=some (.slice (P.elem t)):=by rw [f];exact O
 obtain ⟨i,hi,hs⟩:=(T _ _ _ V).info;have L:(Go.sizeOf e).run P w = .ok sz w:=by simp [Go.sizeOf,typeInfo,program,Sem.run,bind,Sem.bind,pure,hi,hs]
 have h1:(Instr.sliceAt t (.slice a len cap) none (some (.int k (m:Int))) none).run P w = .ok (.slice a m cap) w:=by
  rw [run_sliceAt_slice w t _ _ _ _ h,run_slice_h w t a len cap h k m Ab Ab];rw [f,L];cases a<;>simp [bG,sliced,cU]
 simp [execOp,N.ev X,N.ev Y,bL,h1,bG]
end
open Go.Proofs
attribute [local irreducible] Go.Calls
mutual
def Nd.walk:Nd->List Nd
 | .mk k n s l=>.mk k n s l::B9 l
def B9:List Nd->List Nd
 | []=>[]
 | t::r=>t.walk++B9 r
end
def Hy : ∀l m:List Nd,B9 (l++m)=B9 l++B9 m
 | [],m=>by simp [B9]
 | t::r,m=>by simp only [List.cons_append,B9,Hy r m,cF]
def Jy {l:List Nd} {j:Nat} (h:j<l.length):B9 (l.take (j+1))=B9 (l.take j)++l[j].walk:=by
 rw [bE h,Hy,B9,B9,List.append_nil]
def PF {l:List Nd} {j:Nat} (h:j<l.length):B9 (l.take j)++l[j].walk <+: B9 l:=by
 rw [<-Jy h];exact ⟨B9 (l.drop (j+1)),by rw [<-Hy,cL]⟩
def WU (b0:Nat) (W:wD) (vs:lV) (t:Nd):Prop:= ∃pa pn pc a c,vs=[.slice pa pn pc,t.val a c]/\t.sits (fun b=>b0<=b) W a/\t.kids.length<=c
def SliceR (n:Nat) (w:wD):Ending->wD->Prop:=fun e w'=> ∃a c,e = .returned (.slice a n c)/\Ext w w'
def SliceR.ret {n:Nat} {w:wD} {e:Ending} {w':wD} (h:SliceR n w e w') : ∃v,e = .returned v:=by
 obtain ⟨_,_,h,-⟩:=h;exact ⟨_,h⟩
def Ra {cs:lV} {e B g cap m k:Nat} {w w':wD} (f:0+k=m) (_:OwnF e 1 B w' g cap m ([]++cs)) (X:Ext w w'):SliceR k w (.returned (.slice (some ⟨g,0,none⟩) m cap)) w':=⟨_,_,by rw [<-f,Nat.zero_add],X⟩
def KG (cs:lV) (n:Nat) (F:cs.length=n*1) (L:cs.all eL=true) (hl:n<=1000000000) (S:nP) (p:Addr) (c:Nat) (w:wD) (f:Rows S w cs (some p)) :
 Calls prog 88 #[.slice (some p) n c] w (SliceR n w):=by
 have X:=dI w;have f:=f.ltA;refine Af func88 ntmps88 rfl rfl ?_;refine eK ?_;refine C1 (LJ Ac rfl rfl) ?_;refine eK ?_;refine Au (Jq (B:=w.heap.size) Ac rfl rfl Ab) rfl ?_ aFh;rintro _ w6 ⟨g1,⟨rfl,⟨h2,⟨h3,⟨h4,M⟩⟩⟩⟩⟩;revert X f;refine eY M ?_;intro z7 X f;refine C1 Mv ?_;refine Au (Jr Ac CM rfl rfl rfl rfl Bl rfl rfl rfl Ag Ag F L Ab) rfl ?_ aFh;rintro _ N ⟨O,⟨E,⟨rfl,⟨U,⟨V,⟨Y,h⟩⟩⟩⟩⟩⟩;have Z:=h.size;revert X f;refine eF h ?_;intro X f;refine eK ?_;refine xR ?_;exact Ra rfl Ag X
def KH (w:wD):Calls prog 88 #[.slice none 0 0] w (SliceR 0 w):=by
 have X:=dI w;refine Af func88 ntmps88 rfl rfl ?_;refine eK ?_;refine C1 (LH Ac rfl rfl) ?_;refine eK ?_;refine xR ?_;exact ⟨_,_,rfl,X⟩
def PH {w:wD} {b e n:Nat} {v:Value} {cs:lV} (h:Own w b e 1 v n cs) (f:cs.all eL=true) (E:n<=1000000000):Calls prog 88 #[v] w (SliceR n w):=by
 rcases h.row with ⟨rfl,rfl,rfl⟩|⟨g,cap,rfl,L,-,F⟩
 . exact KH w
 . exact KG cs n h.1 f E (fun _=>True) _ _ w (bF ⟨g,0,rfl,trivial,F⟩)
section
variable {P:Program} {n:Nat} {l:Sl} {S:wD->Prop} {tab:Tab} {zt:Ey} {ty:TypeId} {w:wD} {ops:Array Oper} {Q:Exit->Act->wD->Prop} {rest:List Oper} {d:Nat} {pos:String} {after:Array Edge}
def Rb {x y:Operand} {t e L B m cap:Nat} {sE:Sk} {O:lV} {v u:Value} {cs:lV} {p:Addr} (T:TabOk P tab) (Z:Cy P zt) (V:AD tab t=some (.slice e,L)) (X:AD tab e=some (sE,1)) (Y:CT zt e=some O) (M:O.length=1)
 (N:Do P e=true) (hx:ev l x=some v) (hy:ev l y=some (.slice (some p) 1 cap)) (F:Own w B e 1 v m cs) (hr:Row w p [u]) (h1:eL u=true) (U:m<=10000000000) (hB:B<=w.heap.size) (hd:bM d n=true)
 (k : ∀g f E,Own E B e 1 (.slice (some ⟨g,0,none⟩) (m+1) f) (m+1) (cs++[u])->(v.ownBlock=some g\/w.heap.size<=g)->g<E.heap.size->Fr (fun k=>v.ownBlock=some k) w E->LW P n ops Q rest ((d,.slice (some ⟨g,0,none⟩) (m+1) f)::l) E) :
 LW P n ops Q (⟨some d,.call ⟨.builtin .append,#[x,y],#[t,t]⟩,ty,pos,after,none⟩::rest) l w:=by
 refine Au (Er T Z V X Y M N rfl hx hy F hr rfl (by simp [h1]) Ab Ab hB) hd (fun v E h=>?_) aFh;obtain ⟨g1,g2,g,f,g3,g4⟩:=h;subst g3;exact k g f E g1 g4 (g1.blk (k:=g) rfl).2 g2
end
def Own.below {w:wD} {b e sz n:Nat} {v:Value} {cs:lV} (h:Own w b e sz v n cs) (E:Nat) (F : ∀k,v.ownBlock=some k->E<=k):Own w E e sz v n cs:=by
 obtain ⟨h1,L|⟨g,cap,f,rfl,N,M⟩⟩:=h
 . exact ⟨h1,bC L⟩
 . exact ⟨h1,bF ⟨g,cap,f,rfl,F g rfl,M⟩⟩
def Own.shrink {w:wD} {b e sz n m:Nat} {p:Addr} {cap:Nat} {cs:lV} (h:Own w b e sz (.slice (some p) n cap) n cs) (N:m<=n):Own w b e sz (.slice (some p) m cap) m (cs.take (m*sz)):=by
 have f:m*sz<=n*sz:=Nat.mul_le_mul_right _ N;obtain ⟨h1,⟨O,-⟩|⟨g,F,E,L,U,V,Z,X,Y,M⟩⟩:=h
 . simp at O
 . simp only [bZ,bK] at L;obtain ⟨rfl,-,rfl⟩:=L;refine ⟨by rw [cH,h1];omega,bF ⟨g,cap,E,rfl,U,V,Ab,X,Y,?_⟩⟩;rw [<-M,List.take_take,Nat.min_eq_left];rw [<-h1,<-M,cH] at f;omega
structure VSt (y c bY bP bV:Nat) (A:nP) (W:wD) (pv:Value) (d:Nat):Prop where
 y0:Blk W bY [.func (.yield y) #[] #[]]
 p0:Blk W bP [pv]
 v0:Blk W bV [.func (.func 184) #[] #[.pointer (some ⟨bY,0,none⟩),.pointer (some ⟨bP,0,none⟩),.pointer (some ⟨bV,0,none⟩)]]
 own : ∃cs:lV,cs.all eL=true/\Own W c 3 1 pv d cs
 a0:A bY
 a1:A bP
 a2:A bV
 ap : ∀g,pv.ownBlock=some g->A g/\g≠bY/\g≠bP/\g≠bV
 ne:bY≠bP/\bV≠bP
 lt : ∀k,A k->c<=k/\k<W.heap.size
def Zf (Rt A:nP) (bP:Nat) (pv:Value):nP:=fun k=>Rt k\/(A k/\k≠bP/\pv.ownBlock≠some k)
def Z3 (y c bY bP bV:Nat) (Rt:nP) (J Jx:(nP)->List Nd->wD->Prop) (S:List Nd) (A:nP) (xs:List Nd) (W:wD) (pv:Value) (d:Nat) (q:Bool) (W':wD):Prop:=
 ∃A':nP,(∀k,A k->A' k)/\(∀k,A' k->c<=k) /\
  ((q=true /\ ∃pv',VSt y c bY bP bV A' W' pv' d/\J A' xs W'/\(∀g,pv'.ownBlock=some g->pv.ownBlock=some g\/W.heap.size<=g)/\Keeps (Zf Rt A bP pv) W W')\/(q=false /\ ∃pre,pre <+: S/\Jx A' pre W'))
def VEnd (y c bY bP bV:Nat) (Rt:nP) (J Jx:(nP)->List Nd->wD->Prop) (S:List Nd) (A:nP) (xs:List Nd) (W:wD) (pv:Value) (d:Nat):Ending->wD->Prop:=fun e W'=>
 ∃q,e = .returned (.bool q)/\Z3 y c bY bP bV Rt J Jx S A xs W pv d q W'
def VEnd.ret {y c f E F:Nat} {L:nP} {J Jx:(nP)->List Nd->wD->Prop} {S:List Nd} {A:nP} {xs:List Nd} {W:wD} {M:Value} {d:Nat} {e:Ending} {N:wD} (h:VEnd y c f E F L J Jx S A xs W M d e N) : ∃v,e = .returned v:=by
 obtain ⟨_,h,-⟩:=h;exact ⟨_,h⟩
def Sd {y c f E F:Nat} {L:nP} {J Jx:(nP)->List Nd->wD->Prop} {S:List Nd} {A:nP} {xs:List Nd} {W:wD} {M:Value} {d:Nat} (w:wD) : ¬VEnd y c f E F L J Jx S A xs W M d .outgrown w:=fun ⟨_,h,_⟩=>by cases h
def YRes (Rt:nP) (J Jx:(nP)->List Nd->wD->Prop) (A:nP) (xs:List Nd) (W:wD):Ending->wD->Prop:=fun e W'=>
 Keeps (fun k=>A k\/Rt k) W W'/\((e = .returned (.bool true)/\J A xs W')\/(e = .returned (.bool false)/\Jx A xs W'))
def YRes.ret {f:nP} {J Jx:(nP)->List Nd->wD->Prop} {A:nP} {xs:List Nd} {W:wD} {e:Ending} {E:wD} (h:YRes f J Jx A xs W e E) : ∃v,e = .returned v:=by
 obtain ⟨-,⟨h,-⟩|⟨h,-⟩⟩:=h<;>exact ⟨_,h⟩
def WV (y c bY bP bV:Nat) (Rt:nP) (hRt : ∀k,Rt k->k<c) (J Jx:(nP)->List Nd->wD->Prop) (hJ:MO c J) (S:List Nd)
 (hY : ∀A pre x vs W1,(∀k,A k->c<=k/\k<W1.heap.size)->J A pre W1->WU c W1 vs x->(pre++[x]) <+: S->YieldAt (WF none) 0 prog y vs.toArray W1 (YRes Rt J Jx A (pre++[x]) W1)) (N:Nat) :
 ∀(t:Nd) (A:nP) (pre:List Nd) (a:oA) (ca:Nat) (W:wD) (pv:Value) (d:Nat),t.size<N->t.size<=1000000->d+t.size<=2000000->t.sits Rt W a->VSt y c bY bP bV A W pv d->J A pre W->(pre++t.walk) <+: S ->
  Calls prog 184 #[t.val a ca,.pointer (some ⟨bY,0,none⟩),.pointer (some ⟨bP,0,none⟩),.pointer (some ⟨bV,0,none⟩)] W (VEnd y c bY bP bV Rt J Jx S A (pre++t.walk) W pv d):=by
 induction N with
 | zero=>intro t A pre a ca W pv d h;omega
 | succ N ih=>
  rintro ⟨k,n,s,l⟩ A pre a ca W pv d hN hM hd hs hV hJ0 hpre;have hz:(Nd.mk k n s l).size=1+Am l:=by rw [dL]
  have hlen:=Dm l;rw [hz] at hN hd;have hT:=bA (R9 (.mk k n s l) hM);rw [hz] at hM;obtain ⟨y0,p0,v0,⟨cs,Z,hown⟩,a0,a1,a2,ap,ne,hlt⟩:=hV;have l0:=hlt _ a0;have l1:=hlt _ a1;have l2:=hlt _ a2;have HP:=bA hpre;have HS:=bA hs;have HJ:=bA hJ0;have HAp:=bA ap;have HL:=bA hlt;have IH:=bA ih;have HY:=bA hY;have HJS:=bA hJ;clear ap hlt hpre hJ0 hs ih hY hJ;have X:=dI W;refine Af func184 ntmps184 rfl rfl ?_;refine cS (eB [_,_,_,_] ?_);intro b1 w2 h4 x5 p6 z7;revert y0 p0 v0 hown X;refine eE x5 ?_;intro y0 p0 v0 hown X;refine C1 Pa (cT (Aj ?_));refine Aj (UU (fun wz=>Ext w2 wz) 5 (.pure 0 (.pure 1 (.pure 3 (.fork 2 (.fork 4 .tail .none) .none)))) mixed Bl (Aa (Aa An)) (CF (CF (PE Sd))) ?_);intro w3 x3 _;refine ⟨x3,?_⟩;refine Of rfl (Ax Ac rfl rfl rfl (fun wz hz=>dP (dV y0 hz) rfl)) rfl (Of rfl (Ax Ac rfl rfl rfl (fun wz hz=>dP (dV p0 hz) rfl)) rfl (Of rfl (Ir Ac rfl rfl rfl rfl (fun wz hz=>eC (dV h4 hz))) rfl ?_));refine Sb rfl rfl (Bb Bl rfl (PH (hown.ext x3) Z Ab) (fun _ _ h=>h.ret)) rfl ?_ aFh Sa;rintro _ w4 ⟨pa,pc,⟨⟩,x4⟩;have L:=Ext.trans x3 x4;refine ⟨L,?_⟩;refine Sb rfl rfl (Bb Bl rfl (hT.out Rt a ca w4 (Nd.sits.ext HS.out (X.trans L))) (fun _ _ h=>h.ret)) rfl ?_ aFh Sa;rintro _ w5 ⟨ta,tc,⟨⟩,ts,x5,tk⟩;have z:=Ext.trans L x5;refine ⟨z,?_⟩;refine WT rfl ?_;have X5:=X.trans z
  obtain ⟨A5,hA5⟩ : ∃A5:nP,A5=fun k=>A k\/(W.heap.size<=k/\k<w5.heap.size):=⟨_,rfl⟩
  have hAA : ∀k,A k->A5 k:=fun k hk=>by rw [hA5];exact bC hk
  have hA4 : ∀k,A5 k->c<=k/\k<w5.heap.size:=fun k hk=>by
   rw [hA5] at hk;rcases hk with hk|hk
   . have:=HL.out k hk;have:=X5.size;omega
   . omega
  have aa:A5 b1:=by rw [hA5];have:=h4.lt;have:=z.size;exact bF ⟨Ab,Ab⟩
  have J5:J A5 pre w5:=HJS.out A _ pre W w5 HJ.out ⟨X5.os,X5.tape,X5.output,X5.size,fun k hk _=>X5.block hk⟩ (fun k hk=>(HL.out k hk).1) (fun k hk=>(hA4 k hk).1) (fun k hk h=>by rw [hA5] at h;exact h.elim id (fun h=>by omega));clear hA5;have M:pre++[Nd.mk k n s l] <+: S:=List.IsPrefix.trans ⟨B9 l,by simp [Nd.walk]⟩ HP.out;refine UV rfl rfl (HY.out _ pre (.mk k n s l) [_,_] w5 hA4 J5 ⟨pa,_,pc,ta,tc,rfl,dR ts (fun b hb=>by have:=L.size;omega),tk⟩ M) (fun _ _ h=>h.ret) rfl ?_;rintro v w6 ⟨C,af⟩;refine Zr (CF (CF (PE Sd))) rfl ?_;rcases af with ⟨⟨⟩,hJ6⟩|⟨⟨⟩,hJ6⟩
  case inr=>
   clear y0 p0 v0 h4 hown X;refine eK ?_;refine xR ?_;exact ⟨false,rfl,A5,hAA,fun k h=>(hA4 k h).1,bF ⟨rfl,_,M,hJ6⟩⟩
  have hK:Keeps (Zf Rt A bP pv) W w6:=(Keeps.of_ext X5).trans (Keeps.less C (fun k hk=>hk.elim bF (fun h=>bC (hAA k h.1))));have hkA : ∀k,A5 k -> ¬ ¬(A5 k\/Rt k):=fun k h e=>e (bC h)
  have y0:=(y0.ext z).fr C (hkA _ (hAA _ a0));have p0:=(p0.ext z).fr C (hkA _ (hAA _ a1));have v0:=(v0.ext z).fr C (hkA _ (hAA _ a2));have h4:=(h4.ext z).fr C (hkA _ aa);have hown:=(hown.ext z).fr C (fun g hg=>hkA _ (hAA _ (HAp.out g hg).1));have ab:rowSits Rt w6 l a:=((EV HS.out).ext X5).fr C (fun b hb e=>e (bF hb));have ag:=C.size;have ah:=X5.size;have hV6:VSt y c bY bP bV A5 w6 pv d:=⟨y0,p0,v0,⟨cs,Z,hown⟩,hAA _ a0,hAA _ a1,hAA _ a2,fun g hg=>⟨hAA _ (HAp.out g hg).1,(HAp.out g hg).2⟩,ne,fun k h=>⟨(hA4 k h).1,by have:=hA4 k h;omega⟩⟩;clear X hkA y0 p0 v0 hown hT HY ts x3 x4 x5 L z X5 J5 C hA4 aa;refine C1 Pt (cT (Da rfl (As (Ai (Aj (cS (C1 Pf (C1 (Pl h4) (C1 Pz (C1 Mv (cT ?_)))))))))));refine Ar ?_;refine AJ (ι:=Nat×(nP)×Value) (fun x=>[(1,.pointer (some ⟨bY,0,none⟩)),(2,.pointer (some ⟨bP,0,none⟩)),(3,.pointer (some ⟨bV,0,none⟩)),(16,.slice a l.length ca),(17,.int .i64 l.length),(18,.int .i64 x.1)])
   (fun x w'=>x.1<=l.length/\VSt y c bY bP bV x.2.1 w' x.2.2 d/\J x.2.1 (pre++[.mk k n s l]++B9 (l.take x.1)) w'/\rowSits Rt w' l a/\Keeps (Zf Rt A bP pv) W w'/\(∀g,x.2.2.ownBlock=some g->pv.ownBlock=some g\/W.heap.size<=g)/\(∀k,A k->x.2.1 k))
   (fun x=>l.length-x.1) (0,A5,pv) sB ⟨bI _,hV6,by simpa [B9] using hJ6,ab,hK,fun g hg=>bC hg,hAA⟩ ?_
  clear hV6 hJ6 ab hK hAA h4 ag ah;rintro ⟨j,B,qv⟩ w7 ⟨hj,hV,hJ7,f,hK7,R,hAB⟩;simp only at hj hV hJ7 f hK7 R hAB;by_cases hlt:j<l.length
  . obtain ⟨y0,p0,v0,⟨ds,ai,hown⟩,a0,a1,a2,ap,-,hBl⟩:=hV;obtain ⟨kb,ko,rfl,kS,hkid⟩:=Ba f (by intro e;subst e;simp at hlt);obtain ⟨xa,xc,rx,sx⟩:=hkid j l[j] (aY hlt);have hxz:=Df (bD hlt);have hnext:=Jy hlt;have hpx:=PF hlt;have HB:=bA hBl;have HBp:=bA ap;have HR:=bA hRt;have l0:=hBl _ a0;have l1:=hBl _ a1;have l2:=hBl _ a2;have ckb:=hRt _ kS;have HJ7:=bA hJ7;have HK7:=bA hK7;have HQ7:=bA R;have hob : ∀g,qv.ownBlock=some g->c<=g/\g<w7.heap.size:=fun g hg=>hBl _ (ap g hg).1
    clear hkid hBl ap hJ7 hK7 R hRt;generalize l[j]=x at *;have X7:=eG (fun k=>k=bP\/qv.ownBlock=some k) w7;refine eK ?_;refine eA [_,_,_,_] ?_;intro aj a5 ak al a6 a7;revert y0 p0 v0 hown f rx sx X7;refine eE al ?_;intro y0 p0 v0 hown f rx sx X7;refine C1 Pa (eS [_,_,_,_] ak ?_);intro a8 o u aq;revert y0 p0 v0;refine eF u ?_;intro y0 p0 v0;have hown:=Own.fr hown u (fun g hg e=>by have:=hob _ hg;omega);have f:=fN f u (fun b hb h=>by have:=HR.out _ hb;omega);have rx:=Row.fr rx u (by simp only;omega);have sx:=eO sx u (fun b hb h=>by have:=HR.out _ hb;omega);have X7:=X7.fr u Ab;refine eK ?_;refine Au (xS [_]) rfl ?_ aFh;rintro _ ar ⟨au,rfl,G,av⟩;have w:=G.blk;dsimp only at w;have ac:=G.ext;have aw:=G.pos;have ax:=G.size;revert o y0 p0 v0 hown f rx sx X7;refine eE ac ?_;intro o y0 p0 v0 hown f rx sx X7;refine Rb Ac CM rfl rfl rfl rfl Bl rfl rfl Ag (eC Ag) rfl Ab Ab rfl ?_;rintro F p ay I O az i;have a3:=i.size;have w:=dQ w i (fun h=>by have:=hob _ h;omega);have o:=dQ o i (fun h=>by have:=hob _ h;omega);have y0:=dQ y0 i (fun h=>(HBp.out _ h).2.1 rfl);have p0:=dQ p0 i (fun h=>(HBp.out _ h).2.2.1 rfl);have v0:=dQ v0 i (fun h=>(HBp.out _ h).2.2.2 rfl);clear hown;have f:=fN f i (fun b hb h=>by have:=hob _ h;have:=HR.out _ hb;omega);clear rx;have sx:=eO sx i (fun b hb h=>by have:=hob _ h;have:=HR.out _ hb;omega);have X7:=Fr.fr X7 i (fun k hk=>bC (bF hk));refine eS [_] p0 ?_;intro q T r a4;have I:=Own.fr I r (fun k hk e=>by (obtain rfl:=bO (show some F=some k from hk);rcases O with h|h;exact (HBp.out _ h).2.2.1 e;omega));revert w o;refine eF r ?_;intro w o;have y0:=dQ y0 r (fun h=>ne.1 h);have v0:=dQ v0 r (fun h=>ne.2 h);have f:=fN f r (fun b hb h=>by have:=HR.out _ hb;omega);have sx:=eO sx r (fun b hb h=>by have:=HR.out _ hb;omega);have X7:=X7.fr r Ab;refine cT (Aj ?_)
    have hze:=X7.size;obtain ⟨D,hD⟩ : ∃D:nP,D=fun k=>B k\/(w7.heap.size<=k/\k<q.heap.size):=⟨_,rfl⟩
    have hBD : ∀k,B k->D k:=fun k hk=>by rw [hD];exact bC hk
    have hDl : ∀k,D k->c<=k/\k<q.heap.size:=fun k hk=>by
     rw [hD] at hk;rcases hk with hk|hk
     . have:=HB.out k hk;omega
     . omega
    have hown : ∀g,(cP (some ⟨F,0,none⟩) (d+1) p).ownBlock=some g->D g/\g≠bY/\g≠bP/\g≠bV/\(qv.ownBlock=some g\/w7.heap.size<=g):=fun g hg=>by
     obtain rfl:=bO (show some F=some g from hg);rcases O with h|h
     . have:=HBp.out _ h;exact ⟨hBD _ this.1,this.2.1,this.2.2.1,this.2.2.2,bC h⟩
     . exact ⟨by rw [hD];exact bF ⟨Ab,Ab⟩,Ab,Ab,Ab,bF Ab⟩
    have hV8:VSt y c bY bP bV D q (.slice (some ⟨F,0,none⟩) (d+1) p) (d+1):=⟨y0,T,v0,⟨_,by rw [List.all_append,ai];rfl,I⟩,hBD _ a0,hBD _ a1,hBD _ a2,fun g hg=>⟨(hown g hg).1,(hown g hg).2.1,(hown g hg).2.2.1,(hown g hg).2.2.2.1⟩,ne,hDl⟩;have J8:J D (pre++[Nd.mk k n s l]++B9 (List.take j l)) q:=HJS.out B D _ w7 q HJ7.out (X7.weaken (fun k hk=>hk.elim (fun e=>e▸a1) (fun e=>(HBp.out _ e).1))) (fun k hk=>(HB.out k hk).1) (fun k hk=>(hDl k hk).1) (fun k hk h=>by rw [hD] at h;exact h.elim id (fun h=>by omega));have V:pre++[Nd.mk k n s l]++B9 (List.take j l)++x.walk <+: S:=by
     refine List.IsPrefix.trans ?_ HP.out;rw [Nd.walk,<-List.singleton_append,cF,cF,cF];exact (List.prefix_append_right_inj _).2 ((List.prefix_append_right_inj _).2 hpx)
    have HX:=bA (IH.out x D _ xa xc q _ (d+1) Ab Ab Ab sx hV8 J8 V);have hbx:D aj:=by rw [hD];exact bF ⟨Ab,Ab⟩
    have hK8:Keeps (Zf Rt A bP pv) W q:=HK7.out.trans (Keeps.of_fr X7 (fun k hk h=>by
     rcases hk with hk|⟨h1,h2,h3⟩
     . rcases h with h|h
       . have:=HR.out _ hk;omega
       . have:=HR.out _ hk;have:=hob _ h;omega
     . rcases h with h|h
       . exact h2 h
       . rcases HQ7.out _ h with h|h
         . exact h3 h
         . have:=HL.out _ h1;omega))
    have hWz:=HK7.out.size;clear hD J8 hV8 I O HJ7 HK7 sx X7;refine eK ?_;refine Au (B4 (fi:=[]) (ca:=[.pointer (some ⟨bY,0,none⟩),.pointer (some ⟨bP,0,none⟩),.pointer (some ⟨bV,0,none⟩)]) Bl rfl rfl HX.out (fun _ _ h=>h.ret)) rfl ?_ aFh;rintro _ ad ⟨a9,⟨⟨⟩,am⟩⟩;refine C1 Pt (cT ?_);obtain ⟨E,hDE,hEc,⟨rfl,pv',hV9,J9,ae,hK9⟩|⟨rfl,pre',hp',hJx⟩⟩:=am
    . have hKq : ∀k,Zf Rt A bP pv k->Zf Rt D bP (.slice (some ⟨F,0,none⟩) (d+1) p) k:=fun k hk=>by
       rcases hk with hk|⟨h1,h2,h3⟩
       . exact bC hk
       . refine bF ⟨hBD _ (hAB _ h1),h2,fun e=>?_⟩;rcases (hown _ e).2.2.2.2 with h|h
         . rcases HQ7.out _ h with h|h
           . exact h3 h
           . have:=HL.out _ h1;omega
         . have:=HL.out _ h1;omega
      have hK10:=bA (hK8.trans (hK9.less hKq));have Y:=f.fr hK9 (fun b hb e=>e (bC hb));have ba:=hK9.size;have U : ∀g,pv'.ownBlock=some g->pv.ownBlock=some g\/W.heap.size<=g:=fun g hg=>by
       rcases ae g hg with h|h
       . rcases (hown g h).2.2.2.2 with h|h
         . exact HQ7.out g h
         . exact bF Ab
       . exact bF Ab
      clear T w o y0 v0 f hK8 hK9 hown hKq ae HQ7 HX HBp hob;obtain ⟨y0,p0,v0,⟨ds',hd1',hown⟩,a0',a1',a2',ap,-,hEl⟩:=hV9;rcases hown.row with ⟨-,h0,-⟩|⟨g',cap',rfl,-,-,-⟩
      . omega
      have HP2:=bA ap;have hgP:g'≠bP:=(ap g' rfl).2.2.1;have hcap:d+1<=cap':=OwnF.le (B:=0) ⟨bI _,(hown.below g' (fun k hk=>by obtain rfl:=bO (show some g'=some k from hk);exact bJ _))⟩;have hm:((d+1:Nat):Int)-1=(d:Int):=by omega
      have hsh:=hown.shrink (m:=d) Ab;have HQ:=bA U;have HE:=bA hEl;have HJ9:=bA J9;clear hown ap U hEl J9;have X9:=eG (fun k=>k=bP) ad;refine eK ?_;refine C1 (Cv rfl rfl (bT _ Ab)) (C1 (Jw Ac rfl rfl rfl rfl hm Ab) (eS [_] p0 ?_));intro an ao Q bb;have Y:=fN Y Q (fun b hb h=>by have:=HR.out _ hb;omega);have y0:=dQ y0 Q (fun h=>ne.1 h);have v0:=dQ v0 Q (fun h=>ne.2 h);have hsh:=Own.fr hsh Q (fun k hk e=>hgP ((bO (show some g'=some k from hk)).trans e));have X9:=X9.fr Q Ab;refine Ah (Ae (Ai (Ad (C1 V7 (C1 Mv (Ah ?_))))));refine Aw (j+1,E,.slice (some ⟨g',0,none⟩) d cap') sB ⟨by simp only;omega,⟨y0,ao,v0,⟨_,cX.2 (fun x hx=>cX.1 hd1' x (List.mem_of_mem_take hx)),hsh⟩,a0',a1',a2',fun g hg=>HP2.out g hg,ne,fun k h=>⟨(HE.out k h).1,by have:=(HE.out k h).2;omega⟩⟩,?_,Y,hK10.out.trans (Keeps.of_fr X9 (fun k hk e=>?_)),fun g hg=>HQ.out g hg,fun k h=>hDE _ (hBD _ (hAB _ h))⟩ (by simp only;omega)
      . simp only;rw [hnext,<-cF];exact HJS.out E E _ ad an HJ9.out (X9.weaken (fun k e=>e▸a1')) hEc hEc (fun _ _ h=>h)
      . rcases hk with hk|hk
        . have:=HR.out _ hk;omega
        . exact hk.2.1 e
    . refine eK ?_;refine xR ?_;exact ⟨false,rfl,E,fun k h=>hDE k (hBD k (hAB k h)),hEc,bF ⟨rfl,pre',hp',hJx⟩⟩
  . obtain rfl:j=l.length:=by omega
    rw [bH] at hJ7;have hJ8:J B (pre++(Nd.mk k n s l).walk) w7:=by rw [Nd.walk,<-List.singleton_append,<-cF];exact hJ7
    refine eK ?_;refine xR ?_;exact ⟨true,rfl,B,hAB,fun k h=>(hV.lt k h).1,bC ⟨rfl,qv,hV,hJ8,R,hK7⟩⟩
structure OwnQ {α:Type} (sh:Shape α) (w:wD) (R:nP) (B e:Nat) (v:Value) (xs:List α):Prop where
 ex : ∃css:List lV,Own w B e sh.sz v xs.length css.flatten/\css.length=xs.length /\ ∀(i:Nat) (x:α) (cs:lV),xs[i]? = some x->css[i]? = some cs->sh.rep w (fun b=>R b/\v.ownBlock≠some b) x cs
section
variable {α:Type} {sh:Shape α} {R R':nP} {B e:Nat} {w w':wD} {v:Value} {xs:List α}
def OwnQ.nil:OwnQ sh w R B e (.slice none 0 0) []:=⟨⟨[],Own.nil,rfl,Bd⟩⟩
def OwnQ.ge (h:OwnQ sh w R B e v xs) {k:Nat} (f:v.ownBlock=some k):B<=k:=by
 obtain ⟨E,h1,-⟩:=h.ex;exact h1.ge f
def OwnQ.lt (h:OwnQ sh w R B e v xs) {k:Nat} (f:v.ownBlock=some k):k<w.heap.size:=by
 obtain ⟨E,h1,-⟩:=h.ex;exact (h1.blk f).2
def OwnQ.ext (h:OwnQ sh w R B e v xs) (x:Ext w w'):OwnQ sh w' R B e v xs:=by
 obtain ⟨f,h1,E,F⟩:=h.ex;exact ⟨f,h1.ext x,E,fun i y cs L M=>sh.mono (F i y cs L M) aFh (fun b o u _ N=>x.keep N)⟩
instance  : LfE w w' (OwnQ sh w R B e v xs) (OwnQ sh w' R B e v xs):=⟨fun x h=>Bk.OwnQ.ext h x⟩
def OwnQ.fr {S:nP} (h:OwnQ sh w R B e v xs) (x:Fr S w w') (F : ∀k,S k -> ¬R k/\v.ownBlock≠some k):OwnQ sh w' R B e v xs:=by
 obtain ⟨f,h1,L,M⟩:=h.ex;exact ⟨f,h1.fr x (fun k N E=>(F k E).2 N),L,fun i y cs O U=>sh.mono (M i y cs O U) aFh (fun b o u V X=>x.keep (fun E=>(F b E).1 V.1) X)⟩
instance {S:nP}:LfF S w w' (OwnQ sh w R B e v xs) (∀k,S k -> ¬R k/\v.ownBlock≠some k) (OwnQ sh w' R B e v xs):=⟨fun x s h=>Bk.OwnQ.fr h x s⟩
def OwnQ.ltR (h:OwnQ sh w R B e v xs):OwnQ sh w (fun b=>R b/\b<w.heap.size) B e v xs:=by
 obtain ⟨f,h1,F,L⟩:=h.ex;exact ⟨f,h1,F,fun i y cs M N=>sh.mono (sh.lt (L i y cs M N)) (fun b E=>⟨⟨E.1.1,E.2⟩,E.1.2⟩) (fun _ _ _ _ O=>O)⟩
def OwnQ.below (h:OwnQ sh w R B e v xs) {F:Nat} (M : ∀k,v.ownBlock=some k->F<=k):OwnQ sh w R F e v xs:=by
 obtain ⟨f,h1,N,O⟩:=h.ex;refine ⟨f,?_,N,O⟩;obtain ⟨L,U|⟨g,cap,E,rfl,X,V⟩⟩:=h1
 . exact ⟨L,bC U⟩
 . exact ⟨L,bF ⟨g,cap,E,rfl,M g rfl,V⟩⟩
def X8 (sh:Shape α) (w:wD) (R:nP) (B:Nat) (e:TypeId) (v:Value) (ys:List α):Option Value->wD->Prop
 | some v',w'=> ∃g cap,v' = .slice (some ⟨g,0,none⟩) ys.length cap/\OwnQ sh w' R B e v' ys/\(v.ownBlock=some g\/w.heap.size<=g)/\g<w'.heap.size/\Fr (fun k=>v.ownBlock=some k) w w'
 | none,_=>False
def Jz {P:Program} {n:Nat} {l:Sl} {tab:Tab} {zt:Ey} {ty:TypeId} {x y:Operand} {t sz1 cap:Nat} {sE:Sk} {zs:lV} {cs:lV} {z:α} {p:Addr} (T:TabOk P tab) (Z:Cy P zt) (ht:AD tab t=some (.slice e,sz1)) (hE:AD tab e=some (sE,sh.sz)) (hz:CT zt e=some zs) (hzl:zs.length=sh.sz)
 (hby:Do P e=true) (hsz:bM 0 sh.sz=true) (hx:ev l x=some v) (hy:ev l y=some (.slice (some p) 1 cap)) (hown:OwnQ sh w R' B e v xs) (hw : ∀b,R' b->R b) (hr:Row w p cs) (hrep:sh.rep w (fun b=>R b/\v.ownBlock≠some b) z cs) (hlen:xs.length<=10000000000) (hB:B<=w.heap.size) :
 Cr P n l (.call ⟨.builtin .append,#[x,y],#[t,t]⟩) ty w (X8 sh w R B e v (xs++[z])):=by
 obtain ⟨css,h1,h2,h3'⟩:=hown.ex;have h3 : ∀(i:Nat) (x:α) (cs:lV),xs[i]? = some x->css[i]? = some cs->sh.rep w (fun b=>R b/\v.ownBlock≠some b) x cs:=fun i y cs hy hc=>sh.mono (h3' i y cs hy hc) (fun b hb=>⟨hw b hb.1,hb.2⟩) (fun _ _ _ _ hu=>hu)
 have hd:=Er (P:=P) (n:=n) (l:=l) (ty:=ty) T Z ht hE hz hzl hby hsz hx hy h1 hr (by rw [sh.len hrep];simp) (sh.one hrep) Ab Ab hB;unfold Cr at hd ⊢;intro a dst pos after g next Q ha hn c;refine hd a dst pos after g next Q ha (fun v' w' hG=>?_) (fun w' hG=>hG.elim);obtain ⟨g1,g2,g,cap',g3,g4⟩:=hG;have hg:=g1.blk (k:=g) (by rw [g3];rfl);refine hn v' w' ⟨g,cap',by rw [g3];simp,⟨css++[cs],?_,by simp [h2],fun i y ds hy hc=>?_⟩,g4,hg.2,g2⟩
 . have e1:(css++[cs]).flatten=css.flatten++cs:=by simp
   have e2:(xs++[z]).length=xs.length+1:=by simp
   rw [e1,e2];exact g1
 . have key:sh.rep w (fun b=>R b/\v.ownBlock≠some b) y ds:=by
    by_cases hi:i<xs.length
    . rw [dD hi] at hy;rw [dD Ab] at hc;exact h3 i y ds hy hc
    . have hil:i<(xs++[z]).length:=by
       rcases bQ i (xs++[z]).length with h|h
       . exact h
       . rw [bS h] at hy;cases hy
      simp only [aU,aV,aX] at hil;have hi':i=xs.length:=by omega
      subst hi';rw [List.getElem?_append_right (bJ _)] at hy;rw [List.getElem?_append_right Ab] at hc;simp only [Nat.sub_self,List.getElem?_cons_zero,bK] at hy;rw [h2] at hc;simp only [Nat.sub_self,List.getElem?_cons_zero,bK] at hc;subst hy hc;exact hrep
   refine sh.mono (sh.lt key) (fun b hb=>⟨hb.1.1,fun e=>?_⟩) (fun b o u hb hu=>g2.keep hb.1.2 hu);rw [g3] at e;simp only [cV,bK] at e;subst e;rcases g4 with h|h
   . exact hb.1.2 h
   . omega
def OwnQ.rows (h:OwnQ sh w R B e v xs) (Y:xs≠[]) : ∃g cap,v = .slice (some ⟨g,0,none⟩) xs.length cap/\B<=g/\g<w.heap.size /\ ∀(i:Nat) (x:α),xs[i]? = some x -> ∃cs,Row w ⟨g,i*sh.sz,none⟩ cs/\sh.rep w R x cs:=by
 obtain ⟨f,h1,h2,N⟩:=h.ex;have hM:OwnM sh w R B e v xs:=⟨f,h1,h2,fun i y cs hy hc=>sh.mono (N i y cs hy hc) (fun b L=>⟨bC L.1,L.2⟩) (fun _ _ _ _ O=>O)⟩
 rcases h1.row with ⟨rfl,hn,-⟩|⟨g,cap,rfl,hg,ab,Z⟩
 . exact absurd (List.length_eq_zero_iff.1 hn) Y
 . refine ⟨g,cap,rfl,hg,(h1.blk (k:=g) rfl).2,fun i x M=>?_⟩;obtain ⟨g',aa,hv,-,E⟩:=hM.rows Y;simp only [bZ,bK,Addr.mk.injEq,and_true,true_and] at hv;obtain ⟨rfl,rfl⟩:=hv;have ac:i<xs.length:=by
    rcases bQ i xs.length with h|h
    . exact h
    . rw [bS h] at M;cases M
   have F : ∀cs∈f,cs.length=sh.sz:=fun cs U=>by
    obtain ⟨j,hj,rfl⟩:=List.mem_iff_getElem.1 U;have V:xs[j]? = some xs[j]:=aY Ab;exact sh.len (N j _ _ V (aY hj))
   have X:f[i]? = some (f[i]'(by omega)):=aY Ab;obtain ⟨cs,k1,k2⟩:=E i x M;refine ⟨f[i]'(by omega),?_,sh.mono (N i x _ M X) (fun b L=>L.1) (fun _ _ _ _ O=>O)⟩;obtain ⟨f1,f2⟩:=G4 F (j:=i) Ab;rw [f1] at Z;have hs:=Z.sub (i*sh.sz) sh.sz;rw [Nat.zero_add,cF,List.drop_left' f2,List.take_left' (F _ (bD _))] at hs;exact hs
end
section
variable {P:Program} {n:Nat} {l:Sl} {w:wD} {tab:Tab} {zt:Ey} {ty:TypeId} {α:Type} {sh:Shape α}
def DP {ops:Array Oper} {Q:Exit->Act->wD->Prop} {rest:List Oper} {d:Nat} {pos:String} {after:Array Edge} {x y:Operand} {t e N B cap:Nat} {R R':nP} {sE:Sk} {X:lV} {v:Value} {xs:List α} {cs:lV} {z:α} {p:Addr} (T:TabOk P tab) (Z:Cy P zt) (Y:AD tab t=some (.slice e,N)) (hE:AD tab e=some (sE,sh.sz)) (hz:CT zt e=some X) (O:X.length=sh.sz)
 (U:Do P e=true) (V:bM 0 sh.sz=true) (hx:ev l x=some v) (hy:ev l y=some (.slice (some p) 1 cap)) (F:OwnQ sh w R' B e v xs) (hw : ∀b,R' b->R b) (hr:Row w p cs) (L:sh.rep w (fun b=>R b/\v.ownBlock≠some b) z cs) (M:xs.length<=10000000000) (hB:B<=w.heap.size) (hd:bM d n=true)
 (k : ∀g f E,OwnQ sh E R B e (.slice (some ⟨g,0,none⟩) (xs++[z]).length f) (xs++[z])->(v.ownBlock=some g\/w.heap.size<=g)->g<E.heap.size->Fr (fun k=>v.ownBlock=some k) w E->LW P n ops Q rest ((d,.slice (some ⟨g,0,none⟩) (xs++[z]).length f)::l) E) :
 LW P n ops Q (⟨some d,.call ⟨.builtin .append,#[x,y],#[t,t]⟩,ty,pos,after,none⟩::rest) l w:=
 Au (Jz T Z Y hE hz O U V hx hy F hw hr L M hB) hd (fun v E ⟨g,cap,h,ho,h1,h2,hf⟩=>by subst h;exact k g cap E ho h1 h2 hf) aFh
end
section
variable {P:Program} {n:Nat} {l:Sl} {w:wD} {tab:Tab} {zt:Ey} {ty:TypeId}
def EW {S:wD->Prop} {f:Fn} {cs:List Operand} {vs:lV} (h:evs l cs=some vs):BA P n l S (.makeFunc f #[] cs.toArray) ty (.func f #[] vs.toArray):=by
 unfold BA;intro a w E pos after g F _;have e:=F.evs h;simp [execOp,Instr.makeFunc,e]
end
section
variable {P:Program} {n:Nat} {ops:Array Oper} {Q:Exit->Act->wD->Prop} {rest:List Oper} {l:Sl} {w:wD} {tab:Tab} {ty:TypeId} {pos:String} {after:Array Edge}
end
def WW (t:Nd) (hz:t.size<=1000000) (Rt:nP) (br:Nat) (a:oA) (ca:Nat) (w:wD) (O : ∀k,Rt k->k<w.heap.size) (aa:Rt br) (E:Blk w br (t.cells a ca)) (F:t.sits Rt w a) :
 Og prog 183 [.pointer (some ⟨br,0,none⟩)] WU Rt t.walk w:=by
 intro y J Jx W hK hJ ah hY h0;have ac:=hK.size;have ai:=O _ aa;have E:=E.fr hK (fun e=>e aa);have F:=F.fr hK (fun b hb e=>e hb);have ab : ∀k,Rt k->k<W.heap.size:=fun k M=>Nat.lt_of_lt_of_le (O k M) ac
 have HY:=bA hY;have HJ:=bA hJ;have H0:=bA h0;have HR:=bA ab;clear hY hJ h0 O ab hK;have X:=dI W;show Calls _ _ #[.func (.yield y) #[] #[],.pointer (some ⟨br,0,none⟩)] W _;refine Af func183 ntmps183 rfl rfl ?_;refine cS (eB [_] ?_);intro b1 w2 N x5 p6 z7;revert E F X;refine eE x5 ?_;intro E F X;refine cN (eA [_] ?_);intro b8 w9 f ad aj ak;revert N E F X;refine eE ad ?_;intro N E F X;refine cN (eA [_] ?_);intro U al ae af am an;revert f N E F X;refine eE af ?_;intro f N E F X;refine cN (C1 (EW rfl) (eS [_] ae ?_));intro L V Y ao;revert f N E;refine eF Y ?_;intro f N E;have F:=eO F Y (fun b hb e=>by have:=HR.out _ hb;omega);have X:=X.fr Y Ab;refine cT (Ad (C1 (Pl V) (Bm [_,_,_,_] Ac rfl rfl rfl E rfl rfl rfl ?_)));obtain ⟨A,hA⟩ : ∃A:nP,A=fun k=>W.heap.size<=k/\k<W.heap.size+3:=⟨_,rfl⟩
 have Z : ∀k,A k->W.heap.size<=k/\k<L.heap.size:=fun k M=>by rw [hA] at M;omega
 have J1:J A [] L:=HJ.out (fun _=>False) A [] W L H0.out ⟨X.os,X.tape,X.output,X.size,fun k M _=>X.block M⟩ (fun _ h=>h.elim) (fun k M=>(Z k M).1) (fun k M h=>by have:=Z k h;omega);have ha : ∀k,W.heap.size<=k->k<W.heap.size+3->A k:=fun k h1 h2=>by rw [hA];exact ⟨h1,h2⟩
 have hV:VSt y W.heap.size b1 b8 U A L (.slice none 0 0) 0:=⟨N,f,V,⟨[],rfl,Own.nil⟩,ha _ Ab Ab,ha _ Ab Ab,ha _ Ab Ab,fun g hg=>by simp [cV] at hg,⟨Ab,Ab⟩,Z⟩;have HX:=bA (WV y W.heap.size b1 b8 U Rt HR.out J Jx HJ.out t.walk HY.out (t.size+1) t A [] a ca L (.slice none 0 0) 0 Ab hz Ab F hV J1 (List.prefix_refl _));clear hA J1 ha hV V f N E X;refine Au (B4 (fi:=[]) (ca:=[.pointer (some ⟨b1,0,none⟩),.pointer (some ⟨b8,0,none⟩),.pointer (some ⟨U,0,none⟩)]) Bl rfl rfl HX.out (fun _ _ h=>h.ret)) rfl ?_ aFh;rintro _ ap ⟨aq,⟨⟨⟩,ag⟩⟩;refine Ah (Bn rfl ?_);obtain ⟨A',-,hc,⟨rfl,pv,-,hj,-⟩|⟨rfl,pre,hp,hj⟩⟩:=ag
 . exact ⟨⟨_,rfl⟩,A',hc,bC hj⟩
 . exact ⟨⟨_,rfl⟩,A',hc,bF ⟨pre,hp,hj⟩⟩
def WalkR (t:Nd) (w:wD):Ending->wD->Prop:=fun e w'=> ∃br,e = .returned (.func (.func 183) #[] #[.pointer (some ⟨br,0,none⟩)])/\Og prog 183 [.pointer (some ⟨br,0,none⟩)] WU (fun k=>w.heap.size<=k/\k<w'.heap.size) t.walk w'/\Ext w w'
def WalkR.ret {t:Nd} {w:wD} {e:Ending} {w':wD} (h:WalkR t w e w') : ∃v,e = .returned v:=by
 obtain ⟨_,h,-⟩:=h;exact ⟨_,h⟩
def UW (t:Nd) (N:t.size<=1000000) (S:nP) (a:oA) (c:Nat) (w:wD) (f:t.sits S w a):Calls prog 137 #[t.val a c] w (WalkR t w):=by
 have X:=dI w;refine Af func137 ntmps137 rfl rfl ?_;refine cS (eB [_,_,_,_] ?_);intro b1 w2 E O p6 z7;revert f X;refine eE O ?_;intro f X;refine eK ?_;refine eQ rfl (Ob _ N _ _ _ _ Ag) ?_;rintro _ U ⟨a8,⟨c9,⟨⟨⟩,⟨h,F⟩⟩⟩⟩;revert E f X;refine eY F ?_;intro V E f X;refine xA [_,_,_,_] ?_;intro Y Z L;refine eI [_,_,_,_] L ?_;intro aa ab M ac z21;revert h E f X;refine eE M ?_;intro h E f X;refine cN (C1 (EW rfl) ?_);refine eK ?_;refine xR ?_;exact ⟨_,rfl,WW t N _ _ _ _ _ (fun k hk=>hk.2) ⟨Ab,Ab⟩ Ag (dR Ag (fun b hb=>⟨Ab,Ab⟩)),X⟩
end Bk
namespace Bk
open Go Go.RowKit
def EnvD (D:List Deferred) (n:Nat) (l:Sl) (a:Act):Prop:=Env n l { a with defers:=[] }/\a.defers=D
def Zg (P:Program) (D:List Deferred) (n:Nat) (c:Code) (Q:Exit->Act->wD->Prop) (l:Sl) (w:wD):Prop:= ∀a,EnvD D n l a->c.wp P Q a w
def YE (P:Program) (D:List Deferred) (n:Nat) (ops:Array Oper) (Q:Exit->Act->wD->Prop) (os:List Oper) (l:Sl) (w:wD):Prop:= ∀a,EnvD D n l a->wpList P ops Q os a w
def Se (D:List Deferred) (n:Nat) (Q:Exit->Act->wD->Prop) (e:Exit) (l:Sl) (w:wD):Prop:= ∀a,EnvD D n l a->Q e a w
def EnvD.ev {D:List Deferred} {n:Nat} {l:Sl} {a:Act} (h:EnvD D n l a) {x:Operand} {v:Value} (f:ev l x=some v):a.eval x=v:=h.1.ev f
def EnvD.put {D:List Deferred} {n:Nat} {l:Sl} {a:Act} (h:EnvD D n l a) {d:Nat} (f:bM d n=true) (v:Value):EnvD D n ((d,v)::l) (a.put (some d) v):=⟨h.1.put f v,h.2⟩
section code
variable {P:Program} {D:List Deferred} {n:Nat} {Q:Exit->Act->wD->Prop} {l:Sl} {w:wD} {ops:Array Oper} {rest:List Oper} {d:Nat} {ty:TypeId} {pos:String} {after:Array Edge}
def Sf {x y:Code} (h:Zg P D n x (Exit.then (y.wp P Q) Q) l w):Zg P D n (.seq x y) Q l w:=fun a f=>wp_seq (h a f)
def JA {y:Code} (h:Zg P D n y Q l w):Se D n (Exit.then (y.wp P Q) Q) .normal l w:=h
def LS {E:Nat} {f:List Oper} (h:YE P D n f.toArray Q f l w):Zg P D n (.region E f.toArray false) Q l w:=fun a F=>wp_region_lit (h a F)
def Sg (h:Se D n Q .ret l w):Zg P D n .ret Q l w:=fun a f=>wp_ret (h a f)
def Sh (h:Se D n Q .normal l w):YE P D n ops Q [] l w:=h
def PI {op:Op} {v:Value} (f:BA P n l (· = w) op ty v) (E:bM d n=true) (k:YE P D n ops Q rest ((d,v)::l) w):YE P D n ops Q (⟨some d,op,ty,pos,after,none⟩::rest) l w:=fun a h=>by
 unfold wpList;rw [AU (B0 rfl)];left;have e:(execOp a.eval ⟨some d,op,ty,pos,after,none⟩).run P w = .ok (.value v) w:=by
  unfold BA at f;have:=f { a with defers:=[] } w (some d) pos after none h.1 rfl;exact this
 unfold Oper.wp;rw [e];exact k _ (h.put E v)
def Tr {tab:Tab} {x y:Operand} {t b:Nat} {s:Sk} {v u:Value} (T:TabOk P tab) (O:AD tab t=some (s,1)) (U:ev l x=some (.pointer (some ⟨b,0,none⟩))) (V:ev l y=some v) (L:v.cells = #[v]) (h1:eL v=true) (X:Blk w b [u])
 (k : ∀f,Blk f b [v]->Fr (· = b) w f->YE P D n ops Q rest l f):YE P D n ops Q (⟨none,.store t x y,ty,pos,after,none⟩::rest) l w:=fun a h=>by
 obtain ⟨f,M,N⟩:=FD (P:=P) [v] w b 0 0 [u] X Bd (by simp [h1]);have e:(execOp a.eval ⟨none,.store t x y,ty,pos,after,none⟩).run P w = .ok .skip f:=by
  have E:v.cells.toList=[v]:=by rw [L]
  have F:v.cells.size=1:=by rw [L];rfl
  simp only [execOp,h.ev U,h.ev V,Instr.storeAt,Instr.sureAddr,bL,bW,bG,storeVar,C2 (T _ _ _ O),F,E,M];simp only [ne_eq,not_true,if_false,bL,bW,bG,M]
 unfold wpList;rw [AU (B0 rfl)];left;unfold Oper.wp;rw [e];exact k f N.blk N.fr _ h
end code
def Nk {P:Program} {f:FuncId} {fn:Func} {c:Code} {args:lV} {n:Nat} {w:wD} {R:Ending->wD->Prop}
 (L:P.funcs[f]? = some fn) (V:fn.ntmps=n) (M:fn.body=some c) (N:cY args.length n=true) (h:CW P n c (bodyPostM (WF none) 0 P fn R) (JY 0 args) w):Calls P f args.toArray w R:=by
 refine wf_calls.1 (callsIn_of_wp_marks (F:=WF none) (n:=0) L M trivial (Zq h _ ?_));have O:args.length<=n:=by simpa using N
 refine ⟨by simp;omega,rfl,fun d v U=>?_⟩;obtain ⟨-,E⟩:=JZ d v args 0 U;simp only [Nat.sub_zero] at E;have:d<args.length:=by
  rcases bQ d args.length with h|h
  . exact h
  . rw [bS h] at E;cases E
 rw [aY this] at E;simp only [bK] at E;simp [Array.getElem?_append,this,E]
def Oh (b:Nat):List Deferred:=[{ target:=.collected b,args:= #[] }]
def UX {P:Program} {fn:Func} {tab:Tab} {t ty sz b:Nat} {s:Sk} {v:Value} {tmps:Array Value} {w:wD} (h:fn.results = #[.cell t ty]) (T:TabOk P tab) (E:AD tab ty=some (s,sz)) (F:s.agg=false) (f:tmps.getD t undef = .pointer (some ⟨b,0,none⟩)) (L:w.cell? ⟨b,0,none⟩=some v):(results fn tmps).run P w = .ok v w:=by
 have e:(loadVar ty ⟨b,0,none⟩).run P w = .ok v w:=by
  simp only [bL,bW,bG,loadVar,Eo (T _ _ _ E),F];simp [load,Sem.run,L]
 simp only [Array.getD_eq_getD_getElem?] at f;simp [results,h,f,e,asAddr]
def Ke {w:wD} {m:Nat} {o:Obj} (f:Obj) (h:w.heap[m]? = some o):Fr (· = m) w (w.putObj m f):=⟨rfl,rfl,rfl,Bd,fun k _ E=>World.putObj_heap_other E⟩
def UY {P:Program} {fn:Func} {R:Ending->wD->Prop} {n m t:Nat} {l:Sl} {w:wD} {v:Value} (f:w.heap[m]? = some (.deferred (some []))) (h:fn.results = #[.tmp t]) (F:Ck l t=some v) (L : ∀w',Fr (· = m) w w'->R (.returned v) w'):Se (Oh m) n (bodyPostM (WF none) 0 P fn R) .ret l w:=fun a E=>by
 show LeavesInM _ _ _ _ _ _ a.defers _ _;rw [E.2];refine ⟨Bd,.inl ⟨_,_,rfl,run_takeDeferred f,_,results_tmp h _ _ _,?_⟩⟩;rw [show a.tmps.getD t undef=v from E.1.has t v F];exact L _ (Ke _ f)
def PJ {P:Program} {fn:Func} {R:Ending->wD->Prop} {n m t ty sz b:Nat} {s:Sk} {tab:Tab} {l:Sl} {w:wD} {v:Value} (E:w.heap[m]? = some (.deferred (some []))) (h:fn.results = #[.cell t ty]) (T:TabOk P tab) (M:AD tab ty=some (s,sz)) (N:s.agg=false) (O:Ck l t=some (.pointer (some ⟨b,0,none⟩))) (f:Blk w b [v]) (U : ∀w',Fr (· = m) w w'->R (.returned v) w'):Se (Oh m) n (bodyPostM (WF none) 0 P fn R) .ret l w:=fun a L=>by
 show LeavesInM _ _ _ _ _ _ a.defers _ _;rw [L.2];have F:b≠m:=fun e=>by
  obtain ⟨ty,f⟩:=f;rw [e,E] at f;cases f
 exact ⟨Bd,.inl ⟨_,_,rfl,run_takeDeferred E,_,UX h T M N (L.1.has t _ O) (dP (f.fr (Ke _ E) F) rfl),U _ (Ke _ E)⟩⟩
def Nl (P:Program) (r:Option Nat) (Kp:nP) (m:Nat) (body:Code) (Q:wD->Exit->Act->wD->Prop) (W:wD):Act->wD->Prop:=fun a₁ W₁=>Keeps Kp W W₁ /\ ∀W₂,Fr (· = m) W₁ W₂->body.wpIn (WF r) 0 P (Q W₂) a₁ W₂
def Nm {P:Program} {n:Nat} {r:Option Nat} {Kp:nP} {m:Nat} {body:Code} {Q:wD->Exit->Act->wD->Prop} {W:wD} {G:Exit->Act->wD->Prop} {l:Sl} {w:wD} (h1:Keeps Kp W w) (h : ∀f,Fr (· = m) w f->CR P n r body (Q f) l f):QW n (Exit.then (Nl P r Kp m body Q W) G) .normal l w:=by
 unfold QW;exact fun a E=>⟨h1,fun f F=>h f F a E⟩
def Kf {K:Act->wD->Prop} : ¬LetsOut (Exit.then K (fun _ _ _=>False)):=fun ⟨_,_,h⟩=>h
def PK {α:Type} {P:Program} {n:Nat} {g:Operand} {p q:Tmp} {f body:Code} {Q:Exit->Act->wD->Prop} {l:Sl} {w:wD} {gf:Nat} {lb:lV} {rep:Nat->wD->lV->α->Prop} {Z:nP} {S:List α}
 (hp:bM p n=true) (hq:bM q n=true) (hg:ev l g=some (.func (.func gf) #[] lb.toArray)) (eg:Fl P gf=true) (aa:Og P gf lb rep Z S w) (V : ∀c W vs x,rep c W vs x -> ∃u v,vs=[u,v]) (ab : ∀k,Z k->k<w.heap.size)
 (J Jx:(nP)->List α->wD->Prop) (hJ:MO w.heap.size J) (ac:MO w.heap.size Jx) (h0:J (fun _=>False) [] w)
 (F : ∀r A pre x u v W,(∀k,A k->w.heap.size<=k/\k<W.heap.size)->A (w.heap.size+1)->J A pre W->rep (w.heap.size+2) W [u,v] x->(pre++[x]) <+: S ->
  CR P n (some r) f (Exit.then (Nl P (some r) (fun k=>A k\/Z k) (w.heap.size+1) body (fun W₂=>Hx (fun k=>A k\/Z k) J Jx A (pre++[x]) W₂) W) (fun _ _ _=>False)) ((q,v)::(p,u)::l) W)
 (N : ∀A W,(∀k,A k->w.heap.size<=k)->J A S W->A w.heap.size->W.heap[w.heap.size]? = some (.deferred (some []))->Se (Oh w.heap.size) n Q .normal l W)
 (O : ∀A pre W,(∀k,A k->w.heap.size<=k)->pre <+: S->Jx A pre W->A w.heap.size->W.heap[w.heap.size]? = some (.deferred (some []))->Se (Oh w.heap.size) n Q .ret l W) :
 CW P n (.rangeFunc g #[p,q] f body) Q l w:=by
 refine X6 fun a L=>?_
 refine Q9 (L.ev hg) eg aa (fun c W vs x h=>by obtain ⟨u,v,rfl⟩:=V c W vs x h;rfl) ab J Jx hJ ac h0 (fun r A pre x vs W X ad Y M E=>?_) (fun A W X Y U hk=>?_) (fun A pre W X E Y U hk=>?_)
 . obtain ⟨u,v,rfl⟩:=V _ W vs x M;refine F r A pre x u v W X ad Y M E _ ?_;have e1:Env n l { a with defers:=[] }:=⟨L.size,rfl,L.has⟩
   simpa [Act.put] using (e1.put hp u).put hq v
 . exact N A W X Y U hk _ ⟨⟨L.size,rfl,L.has⟩,by rw [L.defers];rfl⟩
 . exact O A pre W X E Y U hk _ ⟨⟨L.size,rfl,L.has⟩,by rw [L.defers];rfl⟩
def Nn {D:List Deferred} {n i:Nat} {Q:Exit->Act->wD->Prop} {l:Sl} {w:wD} (h:Se D n Q .normal l w):Se D n (Exit.inBlock i Q) .normal l w:=h
def MP {D:List Deferred} {n i:Nat} {Q:Exit->Act->wD->Prop} {l:Sl} {w:wD} (h:Se D n Q .ret l w):Se D n (Exit.inBlock i Q) .ret l w:=h
def Oi {D:List Deferred} {n:Nat} {K:Act->wD->Prop} {Q:Exit->Act->wD->Prop} {l:Sl} {w:wD} (h:Se D n Q .ret l w):Se D n (Exit.then K Q) .ret l w:=h
section
variable {α:Type} {n:Nat} {Kp:nP} {J Jx:(nP)->List α->wD->Prop} {A:nP} {xs:List α} {W w:wD} {l:Sl}
def Oj (h1:Keeps Kp W w) (f:J A xs w):QW n (Hx Kp J Jx A xs W) .normal l w:=by unfold QW;exact fun _ _=>⟨h1,f⟩
def YF (h1:Keeps Kp W w) (f:Jx A xs w):QW n (Hx Kp J Jx A xs W) .ret l w:=by unfold QW;exact fun _ _=>⟨h1,f⟩
def WX {P:Program} {r:Option Nat} {Q:Exit->Act->wD->Prop} {x y:Code} {ι:Type} (L:ι->Sl) (I:ι->wD->Prop) (h:CR P n r x (Exit.then (fun a w=> ∃i,Env n (L i) a/\I i w) Q) l w) (k : ∀i w,I i w->CR P n r y Q (L i) w):CR P n r (.seq x y) Q l w:=fun a f=>
 wpIn_seq (wpIn_mono (h a f) (fun e a w q=>by
  cases e with
  | normal=>obtain ⟨i,E,F⟩:=q;exact k i w F a E
  | _=>exact q))
end
section
variable {P:Program} {n:Nat} {r:Option Nat} {Q:Exit->Act->wD->Prop} {l:Sl} {w:wD} {c:Operand} {x y:Code}
def I3 {p:Prop} [Decidable p] (f:ev l c=some (.bool (decide p))) (h:p->CR P n r x Q l w) (E : ¬p->CR P n r y Q l w):CR P n r (.cond c x y) Q l w:=WR f (fun e=>h (of_decide_eq_true e)) (fun e=>E (of_decide_eq_false e))
def YG {p:Prop} [Decidable p] (f:ev l c=some (.bool (decide p))) (E:p) (h:CR P n r x Q l w):CR P n r (.cond c x y) Q l w:=I3 f (fun _=>h) (fun e=>absurd E e)
def Zs {p:Prop} [Decidable p] (f:ev l c=some (.bool (decide p))) (E : ¬p) (h:CR P n r y Q l w):CR P n r (.cond c x y) Q l w:=I3 f (fun e=>absurd e E) (fun _=>h)
end
attribute [irreducible] Zg YE Se
open Go.Proofs
attribute [local irreducible] Go.Calls
def Nd.isRef (s:lB) (m:Nd):Bool:=decide (2<=m.kind/\m.kind<=5)&&decide (m.name=s)
def Nd.ment (s:lB) (t:Nd):Bool:=t.walk.any (Nd.isRef s)
def Ya {c:Nat} {W:wD} {vs:lV} {x:Nd} (h:WU c W vs x) : ∃u v,vs=[u,v]:=by
 obtain ⟨f,E,F,a,c,rfl,-⟩:=h;exact ⟨_,_,rfl⟩
def LT (t:Nd) (hz:t.size<=1000000) (s:lB) (S:nP) (a:oA) (c:Nat) (w:wD) (V:t.sits S w a):Calls prog 186 #[t.val a c,str s] w fun e w'=>e = .returned (.bool (t.ment s))/\Ext w w':=by
 have X:=dI w;refine Nk (args:=[_,_]) func186 ntmps186 rfl rfl ?_;refine cS (eB [_,_,_,_] ?_);intro b1 w2 h4 x5 p6 z7;revert V X;refine eE x5 ?_;intro V X;refine eB [_] ?_;intro b8 w9 F ae av aw;revert h4 V X;refine eE ae ?_;intro h4 V X;refine eA [_] ?_;intro M af Y ag ax z22;revert F h4 V X;refine eE ag ?_;intro F h4 V X;refine eK ?_;refine eQ rfl (UW _ hz _ _ _ _ Ag) ?_;rintro _ ab ⟨au,⟨⟨⟩,⟨ac,ah⟩⟩⟩;revert Y F h4 V X;refine eY ah ?_;intro ay Y F h4 V X;refine cT ?_;refine Ar ?_;obtain ⟨m,hm⟩ : ∃m,m=ab.heap.size:=⟨_,rfl⟩;refine PK rfl rfl rfl Bl ac (fun _ _ _ _ h=>Ya h) (fun k f=>f.2)
  (fun A xs W=>Blk W b8 [str s]/\Blk W M [.bool false]/\xs.any (Nd.isRef s)=false/\Ext w W)
  (fun A xs W=>Blk W M [.bool true]/\xs.any (Nd.isRef s)=true/\Ext w W) ?_ ?_ ⟨F,Y,rfl,X⟩ ?_ ?_ ?_
 . rintro A A' xs W W' ⟨h1,h2,h3,x⟩ Z L - -;exact ⟨h1.fr Z (fun e=>by have:=L _ e;omega),h2.fr Z (fun e=>by have:=L _ e;omega),h3,eX x Z (fun k f=>by have:=L _ f;omega)⟩
 . rintro A A' xs W W' ⟨h1,h2,x⟩ Z L - -;exact ⟨h1.fr Z (fun e=>by have:=L _ e;omega),h2,eX x Z (fun k f=>by have:=L _ f;omega)⟩
 . rintro r A pre x u v W L ai ⟨O,j2,j3,U⟩ ⟨pa,pn,pc,xa,xc,e,sx,-⟩ N;simp only [cK,and_true] at e;obtain ⟨rfl,rfl⟩:=e;clear ac Y F h4 V X;have az:=L _ ai;have ad:(pre++[x]).any (Nd.isRef s)=x.isRef s:=by rw [List.any_append,j3];simp
   obtain ⟨k,n,sn,l⟩:=x;have X1:=dI W;refine Cp rfl Kf ?_;refine xA [_,_,_,_] ?_;intro aj a0 ak;refine eI [_,_,_,_] ak ?_;intro a1 E al a2 a3;revert O j2 U sx X1;refine eE al ?_;intro O j2 U sx X1;refine Ah ?_;refine Nm (Keeps.of_ext X1) fun W2 f2=>?_
   revert E O j2;refine eF f2 ?_;intro E O j2;have U:=eX U f2 (fun k f=>by omega);have a4:=f2.size;have a5 : ∀k,A k->k<W2.heap.size:=fun k f=>by have:=L k f;omega
   have HA:=bA L;clear sx X1 f2 L;simp only [dM,Nd.num,Nd.name,dN] at E;refine Jv (FO (Cp rfl (CF (Cl DD)) (C1 Pg (C1 (Pl E) (Ah (EK ?_))))));refine Jv ?_;refine WX (ι:=Unit) (fun _=>[(3,.pointer (some ⟨b8,0,none⟩)),(4,.pointer (some ⟨M,0,none⟩)),(6,.pointer (some ⟨aj,0,none⟩)),(13,.bool (decide (2<=k/\k<=5)))]) (fun _ w'=>w'=W2) ?_ ?_
   . focus
      refine FO (Cp rfl (CF (CF (Cl (Cl DD)))) (C1 V1 (C1 Pa (Ah (EK ?_)))));refine I3 rfl (fun am=>?_) (fun am=>?_);refine Iy ?_;rotate_left;refine FO (Cp rfl (CF (CF (Cl (Cl DD)))) (C1 V1 (C1 Pa (Ah (EK ?_)))));refine I3 rfl (fun an=>?_) (fun an=>?_);refine Iy ?_;rotate_left;refine FO (Cp rfl (CF (CF (Cl (Cl DD)))) (C1 V1 (C1 Pa (Ah (EK ?_)))));refine I3 rfl (fun ao=>?_) (fun ao=>?_);refine Iy ?_;rotate_left;refine Cp rfl (CF (Cl (Cl DD))) (C1 V1 (C1 Pa (Ah ?_)));rotate_left
     all_goals exact BL () (Ak rfl (Ak rfl (Ak rfl (AW rfl (congrArg dF (decide_eq_decide.2 Ab)) AY)))) rfl
   . rintro-W3 h;subst h;have X3:=eG (fun k=>k=M) W3;have hb : ∀k,A k\/(af.heap.size<=k/\k<ab.heap.size) -> ¬k=M:=fun k f e=>by
      rcases f with f|f
      . have:=HA.out k f;omega
      . omega
     have hy:=ad;unfold Nd.isRef at hy;simp only [dM,Nd.name] at hy;clear ad N
     focus
      refine I3 rfl (fun ap=>?_) (fun ap=>?_);refine FO (Cp rfl (CF (Cl (Cl DD))) (C1 Pf (C1 (Pl E) (C1 (Pl O) (C1 V8 (Ah (EK ?_)))))));refine I3 rfl (fun aq=>?_) (fun aq=>?_);refine FO (Cp rfl (CF (Cl (Cl DD))) (eS [_] j2 ?_));intro a6 a7 ar a8;revert E O U X3;refine eF ar ?_;intro E O U X3;refine Ah (EK (YD (AV (AV ?_))));rotate_left;refine Iy (Ae (Ae ?_));rotate_left;refine Iy (Ae (Ae ?_));rotate_left
     . exact YF (Keeps.of_fr X3 hb) ⟨Ag,hy.trans (by simp [*]),Ag⟩
     . exact Oj (Keeps.of_fr X3 hb) ⟨Ag,Ag,hy.trans (by simp [*]),Ag⟩
     . refine Oj (Keeps.of_fr X3 hb) ⟨Ag,Ag,hy.trans ?_,Ag⟩;rw [Bool.and_eq_false_iff];exact bC (decide_eq_false Ab)
 . rintro A W L ⟨O,j2,j3,U⟩-f;refine Nn (JA (Sf (LS (Tr Ac rfl rfl rfl rfl rfl j2 (fun w1 hb Z=>Sh (JA (Sg ?_)))))));refine PJ ?_ rfl Ac rfl rfl rfl hb (fun w2 aa=>⟨by rw [Nd.ment,j3],eX (eX U Z (fun k e=>by omega)) aa (fun k e=>by omega)⟩);rw [Z.block _ (Array.getElem?_eq_some_iff.1 f).1 Ab];exact f
 . rintro A pre W L N ⟨O,j2,U⟩-f;refine MP (Oi (PJ f rfl Ac rfl rfl rfl O (fun w2 aa=>⟨?_,eX U aa (fun k e=>by omega)⟩)));obtain ⟨q,hq⟩:=N;rw [Nd.ment,<-hq,List.any_append,j2];rfl
def Hz (k:Nat):Shape Unit where
 sz:=k
 rep _ _ _ cs:=cs.length=k/\cs.all eL=true
 len h:=h.1
 one h:=h.2
 mono h _ _:=h
 lt h:=h
def Gy:Shape (Int×Bool) where
 sz:=6
 rep _ _ x cs:= ∃(k n:Int) (s:lB) (a:oA) (m c:Nat),cs=[.int .u8 k,.int .i64 n,str s,.slice a m c,.int .i64 x.1,.bool x.2]
 len h:=by obtain ⟨_,_,_,_,_,_,rfl⟩:=h;rfl
 one h:=by obtain ⟨_,_,_,_,_,_,rfl⟩:=h;rfl
 mono h _ _:=h
 lt h:=h
def NodeR (w:wD):Ending->wD->Prop:=fun e w'=> ∃(k n:Int) (s:lB) (a:oA) (m c:Nat),e = .returned (.agg #[.int .u8 k,.int .i64 n,str s,.slice a m c])/\Ext w w'
def NodeR.ret {w:wD} {e:Ending} {w':wD} (h:NodeR w e w') : ∃v,e = .returned v:=by
 obtain ⟨_,_,_,_,_,_,h,-⟩:=h;exact ⟨_,h⟩
def Iz (v:Int) (w:wD) (h:0<=v):Calls prog 269 #[.int .i64 v] w (NodeR w):=by
 have X:=dI w;refine Af func269 ntmps269 rfl rfl ?_;refine cS (eA [_,_,_,_] ?_);intro N O F L U V;have X:=X.ext L;refine eK ?_;refine C1 (xB [_,_,_,_]) (eS [_,_,_,_] F ?_);intro Y f E M;have X:=X.fr E Ab;refine eK ?_;refine xC f ?_;exact ⟨_,_,[],_,_,_,rfl,X⟩
def Ts (v:Int) (w:wD) (h : -9223372036854775808<=v):Calls prog 269 #[.int .i64 v] w (NodeR w):=by
 by_cases h0:0<=v
 . exact Iz v w h0
 by_cases h1:v = -9223372036854775808
 . subst h1;have X:=dI w;refine Af func269 ntmps269 rfl rfl ?_;refine cS (eA [_,_,_,_] ?_);intro b1 w2 M x6 p7 z8;have X:=X.ext x6;refine eK ?_;refine eQ rfl (Iz _ _ Ab) ?_;rintro _ av ⟨k9,⟨aw,⟨ax,⟨ay,⟨az,⟨a0,⟨⟨⟩,Z⟩⟩⟩⟩⟩⟩⟩;revert M X;refine eY Z ?_;intro a1 M X;refine eQ rfl (Iz _ _ Ab) ?_;rintro _ a2 ⟨a3,⟨a4,⟨a5,⟨a21,⟨a6,⟨a7,⟨⟨⟩,aa⟩⟩⟩⟩⟩⟩⟩;revert M X;refine eY aa ?_;intro a8 M X;refine Au (xS [_,_,_,_,_,_,_,_]) rfl ?_ aFh;rintro _ a9 ⟨ba,rfl,F,bb⟩;have N:=F.blk;have ab:=F.ext;have bc:=F.pos;have bd:=F.size;revert M X;refine eE ab ?_;intro M X;refine C1 (xB [_,_,_,_]) (eS [_,_,_,_] M ?_);intro be ac ad bf;revert N X;refine eF ad ?_;intro N X;refine eK ?_;refine xC ac ?_;exact ⟨_,_,[],_,_,_,rfl,X⟩
 . have X:=dI w;have hw:0<=M7 (0-v):=by
    have:M7 (0-v)=0-v:=by unfold M7;rw [IntKind.wrap];simp [IntKind.signed,IntKind.bits];omega
    omega
   refine Af func269 ntmps269 rfl rfl ?_;refine cS (eA [_,_,_,_] ?_);intro bg bh E ae bi bj;have X:=X.ext ae;refine eK ?_;refine C1 (OZ rfl) (eQ rfl (Iz _ _ hw) ?_);rintro _ af ⟨bk,⟨ag,⟨ah,⟨ai,⟨aj,⟨ak,⟨⟨⟩,O⟩⟩⟩⟩⟩⟩⟩;revert E X;refine eY O ?_;intro al E X;refine Au (xS [_,_,_,_]) rfl ?_ aFh;rintro _ am ⟨an,rfl,f,ao⟩;have L:=f.blk;have U:=f.ext;have ap:=f.pos;have aq:=f.size;revert E X;refine eE U ?_;intro E X;refine C1 (xB [_,_,_,_]) (eS [_,_,_,_] E ?_);intro ar V Y au;revert L X;refine eF Y ?_;intro L X;refine eK ?_;refine xC V ?_;exact ⟨_,_,[],_,_,_,rfl,X⟩
def Gg (k n:Int) (kids:List (Int×Bool)):Int×Bool:=
 if kids.all (·.2)=true then
  if k=1 then (n,true) else if k=2\/k=3\/k=4\/k=5 then (0,false)
  else if k=6\/k=7 then ((GW k (kids.getD 0 (0,false)).1).1,decide ((GW k (kids.getD 0 (0,false)).1).2=0))
  else ((GV k (kids.getD 0 (0,false)).1 (kids.getD 1 (0,false)).1).1,decide ((GV k (kids.getD 0 (0,false)).1 (kids.getD 1 (0,false)).1).2=0))
 else (0,false)
def Si (x:Int×Bool):Int×Bool:=if x.2=true then x else (0,false)
mutual
def Nd.cval:Nd->Int×Bool
 | .mk k n _ l=>Si (Gg k n (G7 l))
def G7:List Nd->List (Int×Bool)
 | []=>[]
 | t::r=>t.cval::G7 r
end
def KI : ∀l:List Nd,G7 l=l.map Nd.cval
 | []=>rfl
 | t::r=>by rw [G7,KI r,List.map_cons]
def FoldR (t:Nd) (w:wD):Ending->wD->Prop:=fun e w'=> ∃(k n:Int) (s:lB) (a:oA) (m c:Nat),e = .returned (.agg #[.int .u8 k,.int .i64 n,str s,.slice a m c,.int .i64 t.cval.1,.bool t.cval.2])/\Ext w w'
def FoldR.ret {t:Nd} {w:wD} {e:Ending} {w':wD} (h:FoldR t w e w') : ∃v,e = .returned v:=by
 obtain ⟨_,_,_,_,_,_,h,-⟩:=h;exact ⟨_,h⟩
def EachR {α:Type} (sh:Shape α) (e:Nat) (xs:List α) (w:wD):Ending->wD->Prop:=fun r w'=> ∃a c,r = .returned (.slice a xs.length c)/\OwnQ sh w' (fun _=>False) w.heap.size e (.slice a xs.length c) xs/\Ext w w'
def EachR.ret {α:Type} {sh:Shape α} {e:Nat} {xs:List α} {w:wD} {r:Ending} {w':wD} (h:EachR sh e xs w r w') : ∃v,r = .returned v:=by
 obtain ⟨_,_,h,-⟩:=h;exact ⟨_,h⟩
def WY (l:List Nd) (hl:l.length<=1000000) (S:nP) (a:oA) (c:Nat) (w:wD) (F:rowSits S w l a)
 (hC : ∀x∈l,∀(S:nP) (a:oA) (c:Nat) (w:wD),x.sits S w a->Calls prog 250 #[x.val a c] w (FoldR x w)) :
 Calls prog 267 #[.slice a l.length c,.func (.func 250) #[] #[]] w (EachR Gy 276 (l.map Nd.cval) w):=by
 have HC:=bA hC;clear hC;have F:=CY _ _ F;have X:=dI w;refine Af func267 ntmps267 rfl rfl ?_;refine cS (C1 Pa (cN (C1 Pa (cT (Aj (cS (C1 Mv (C1 Pz (C1 Mv (cT ?_))))))))));refine Ar ?_;refine AJ (ι:=Nat×oA×Nat) (fun x=>[(1,.func (.func 250) #[] #[]),(5,.slice x.2.1 ((l.take x.1).map Nd.cval).length x.2.2),(8,.slice a l.length c),(9,.int .i64 l.length),(10,.int .i64 x.1)])
  (fun x w'=>OwnQ Gy w' (fun _=>False) w.heap.size 276 (.slice x.2.1 ((l.take x.1).map Nd.cval).length x.2.2) ((l.take x.1).map Nd.cval)/\x.1<=l.length/\rowSits (· < w.heap.size) w' l a/\Ext w w')
  (fun x=>l.length-x.1) (0,none,0) sB ⟨OwnQ.nil,bI _,F,X⟩ ?_
 clear F X;rintro ⟨j,ra,rc⟩ w1 ⟨f,hj,F,X⟩;simp only at f hj F X;have N : ∀g,(cP ra ((l.take j).map Nd.cval).length rc).ownBlock=some g->w.heap.size<=g/\g<w1.heap.size:=fun g h=>⟨f.ge h,f.lt h⟩
 have az:=X.size;by_cases U:j<l.length
 . obtain ⟨kb,ko,rfl,kS,V⟩:=Ba F (by intro e;subst e;simp at U);obtain ⟨xa,xc,rx,Y⟩:=V j l[j] (aY U);have HX:=bA (HC.out l[j] (bD U));have O:(l.take j).map Nd.cval++[l[j].cval]=(l.take (j+1)).map Nd.cval:=by rw [bE U,List.map_append];rfl
   have a0:((l.take j).map Nd.cval).length<=1000000:=by simp;omega
   clear V HC;generalize l[j]=x at *;refine eK ?_;refine xA [_,_,_,_] ?_;intro a1 a2 ad;refine eI [_,_,_,_] ad ?_;intro a3 M ae a4 a5;revert f X F rx Y;refine eE ae ?_;intro f X F rx Y;refine eK ?_;refine Au (B4 (fi:=[]) (ca:=[]) Bl rfl rfl (HX.out _ _ _ _ Ag) (fun _ _ h=>h.ret)) rfl ?_ aFh;rintro _ af ⟨a6,⟨ag,⟨ah,⟨ai,⟨aj,⟨ak,⟨⟨⟩,aa⟩⟩⟩⟩⟩⟩⟩;revert M f X F rx Y;refine eY aa ?_;intro al M f X F rx Y;refine Au (xS [_,_,_,_,_,_]) rfl ?_ aFh;rintro _ am ⟨an,rfl,L,ao⟩;have Z:=L.blk;have ab:=L.ext;have ap:=L.pos;have aq:=L.size;revert M f X F rx Y;refine eE ab ?_;intro M f X F rx Y;refine DP (R:=fun _=>False) (sh:=Gy) (z:=x.cval) Ac CM rfl rfl rfl rfl Bl rfl rfl rfl Ag (fun _ h=>by exact h) (eC Ag) ⟨_,_,_,_,_,_,rfl⟩ Ab Ab rfl ?_;rintro ar ac au av aw ax E;have ay:=E.size;have Z:=dQ Z E (fun h=>by have:=N _ h;omega);have M:=dQ M E (fun h=>by have:=N _ h;omega);clear f;have X:=eX X E (fun k hk=>by have:=N _ hk;omega);have F:=fN F E (fun b hb h=>by have:=N _ h;omega);clear rx;have Y:=eO Y E (fun b hb h=>by have:=N _ h;omega);refine C1 Pa (Ah (Ae (Ai (Ad (C1 V7 (C1 Mv (Ah ?_)))))))
   rw [O];exact Aw (j+1,some ⟨_,0,none⟩,_) sB ⟨by simp only;rw [<-O];assumption,by simp only;omega,F,X⟩ (by simp only;omega)
 . obtain rfl:j=l.length:=by omega
   rw [bH] at f;refine eK ?_;refine xR ?_;simp only [bH];exact ⟨_,_,rfl,f,X⟩
def KidsAt (w:wD) (a:oA) (kids:List (Int×Bool)):Prop:=kids=[] \/ ∃b o,a=some ⟨b,o,none⟩/\b<w.heap.size /\ ∀(i:Nat) (x:Int×Bool),kids[i]? = some x -> ∃(k n:Int) (s:lB) (c:oA) (m d:Nat),Row w ⟨b,o+i*6,none⟩ [.int .u8 k,.int .i64 n,str s,.slice c m d,.int .i64 x.1,.bool x.2]
def KidsAt.ext {w w':wD} {a:oA} {kids:List (Int×Bool)} (h:KidsAt w a kids) (x:Ext w w'):KidsAt w' a kids:=h.imp id fun ⟨b,o,h1,h2,h3⟩=>⟨b,o,h1,Nat.lt_of_lt_of_le h2 x.size,fun i y f=>by
 obtain ⟨k,n,s,c,m,d,r⟩:=h3 i y f;exact ⟨k,n,s,c,m,d,r.ext x⟩⟩
instance {w w':wD} {a:oA} {kids:List (Int×Bool)}:LfE w w' (KidsAt w a kids) (KidsAt w' a kids):=⟨fun x h=>Bk.KidsAt.ext h x⟩
def OwnQ.kidsAt {w:wD} {R:nP} {B e cap m:Nat} {a:oA} {kids:List (Int×Bool)} (h:OwnQ Gy w R B e (.slice a m cap) kids):KidsAt w a kids:=by
 by_cases E:kids=[]
 . exact bC E
 . obtain ⟨g,F,L,-,M,f⟩:=h.rows E;simp only [bZ] at L;obtain ⟨rfl,-,-⟩:=L;refine bF ⟨g,0,rfl,M,fun i x N=>?_⟩;obtain ⟨cs,O,k,n,s,c,m,d,rfl⟩:=f i x N;exact ⟨k,n,s,c,m,d,by simpa [Gy] using O⟩
set_option maxHeartbeats 8000000 in
def WZ (k n:Int) (s:lB) (l:List Nd) (na:oA) (nc:Nat) (kids:List (Int×Bool)) (a:oA) (c:Nat) (w:wD) (hl:kids.length<=1000000) (f:KidsAt w a kids) (h1:k=6\/k=7->kids.length=1) (h2:8<=k->kids.length=2) (h0:1<=k) :
 Calls prog 268 #[(Nd.mk k n s l).val na nc,.slice a kids.length c] w fun e w'=>e = .returned (.tuple #[.int .i64 (Gg k n kids).1,.bool (Gg k n kids).2])/\Ext w w':=by
 have X:=dI w;have HK:=bA f;clear f;refine Af func268 ntmps268 rfl rfl ?_;refine cS (eB [_,_,_,_] ?_);intro b1 w2 F x5 p6 z7;have X:=X.ext x5;refine C1 Pa (C1 Pa (cT (Aj (cS (C1 Mv (C1 Pz (C1 Mv (cT ?_))))))));refine Ar ?_;refine AJ (ι:=Nat) (fun j=>[(1,.slice a kids.length c),(2,.pointer (some ⟨b1,0,none⟩)),(10,.slice a kids.length c),(11,.int .i64 kids.length),(12,.int .i64 j)])
  (fun j w'=>j<=kids.length/\Blk w' b1 [.int .u8 k,.int .i64 n,str s,.slice na l.length nc]/\Ext w w'/\(kids.take j).all (·.2)=true)
  (fun j=>kids.length-j) 0 sB ⟨bI _,F,X,rfl⟩ ?_
 clear F X;rintro j w2 ⟨hj,F,X,M⟩;by_cases Y:j<kids.length
 . rcases HK.out.ext X with f|⟨b,o,rfl,hb,f⟩
   . subst f;simp at Y
   obtain ⟨k',n',s',c',m',d',N⟩:=f j kids[j] (aY Y);have aa:(kids.take (j+1)).all (·.2)=kids[j].2:=by rw [bE Y,List.all_append,M];simp
   have ac:kids[j].2=false->kids.all (·.2)=false:=fun h=>by
    rw [List.all_eq_false];exact ⟨kids[j],bD Y,by rw [h];simp⟩
   clear f;generalize kids[j]=x at *
   focus
    refine eK ?_;refine xA [_,_,_,_,_,_] ?_;intro ax ay ah;refine eI [_,_,_,_,_,_] ah ?_;intro az ai aj a0 a1;revert F X N;refine eE aj ?_;intro F X N;refine cN (C1 Pf (C1 (Pl ai) (C1 Pt (cT ?_))));refine Hp rfl (fun ak=>?_) (fun ak=>?_);refine eK ?_;refine xT ?_;rotate_left;refine As (Ae (Ai (Ad (C1 V7 (C1 Mv (Ah ?_))))));rotate_left
   . exact ⟨by rw [Gg,AE (by rw [ac Ag];simp)],X⟩
   . exact Aw (j+1) sB ⟨Ab,F,X,aa.trans Ag⟩ Ab
 . obtain rfl:j=kids.length:=by omega
   rw [bH] at M;have hv:Gg k n kids=if k=1 then (n,true) else if k=2\/k=3\/k=4\/k=5 then (0,false) else if k=6\/k=7 then ((GW k (kids.getD 0 (0,false)).1).1,decide ((GW k (kids.getD 0 (0,false)).1).2=0)) else ((GV k (kids.getD 0 (0,false)).1 (kids.getD 1 (0,false)).1).1,decide ((GV k (kids.getD 0 (0,false)).1 (kids.getD 1 (0,false)).1).2=0)):=by rw [Gg,AU M]
   rw [hv];clear M hv;by_cases k5:k<=5
   . clear h1 h2 HK
     focus
      refine eK ?_;refine AH rfl (fun al=>?_) (fun al=>?_);refine eK ?_;refine xT ?_;rotate_left;refine eK ?_;refine AH rfl (fun am=>?_) (fun am=>?_);refine eK ?_;refine xT ?_;rotate_left;refine eK ?_;refine AH rfl (fun an=>?_) (fun an=>?_);refine eK ?_;refine xT ?_;rotate_left;refine eK ?_;refine AH rfl (fun ao=>?_) (fun ao=>?_);refine eK ?_;refine xT ?_;rotate_left;refine eK ?_;refine xT ?_;rotate_left
     all_goals (refine ⟨?_,X⟩;first|rw [AU Ab]|rw [AE Ab,AU Ab])
   by_cases k7:k<=7
   . have ab:=h1 Ab
     match kids,ab with
     | [x],_=>
      rcases HK.out.ext X with f|⟨b,o,rfl,hb,f⟩
      . cases f
      obtain ⟨k',n',s',c',m',d',N⟩:=f 0 x rfl;clear h1 h2 HK f
      focus
       refine eK ?_;refine AH rfl (fun ap=>?_) (fun ap=>?_);refine eK ?_;refine AC (fun O=>Ext w2 O) 11 (.pure 0 (.pure 1 (.pure 2 (.pure 3 (.pure 4 (.pure 5 (.fork 6 (.pure 7 (.pure 8 (.pure 9 (.pure 10 .tail)))) .none))))))) mixed Bl (Al (Aa An)) ?_;intro aq ad _;have U:(fun O=>Ext w2 O) aq:=ad;simp only at U;have Z:=F;have E:=N;revert F X N;refine eY ad ?_;intro a2 F X N;refine ⟨U,?_⟩;refine eT ?_;refine Tq rfl (Dr E) ?_;refine tC rfl rfl (R2 _ _ _) ?_;rintro _ a3 ⟨⟨⟩,rfl⟩;refine ⟨U,?_⟩;refine Tq rfl Mv (Tq rfl Px (Tq rfl Px (Tq rfl Pa ?_)));refine AF rfl ?_;refine eK ?_;refine xT ?_;rotate_left;refine eK ?_;refine AC (fun O=>Ext w2 O) 11 (.pure 0 (.pure 1 (.pure 2 (.pure 3 (.pure 4 (.pure 5 (.fork 6 (.pure 7 (.pure 8 (.pure 9 (.pure 10 .tail)))) .none))))))) mixed Bl (Al (Aa An)) ?_;intro ar ae _;have L:(fun O=>Ext w2 O) ar:=ae;simp only at L;have Z:=F;have E:=N;revert F X N;refine eY ae ?_;intro av F X N;refine ⟨L,?_⟩;refine eT ?_;refine Tq rfl (Dr E) ?_;refine tC rfl rfl (R2 _ _ _) ?_;rintro _ aw ⟨⟨⟩,rfl⟩;refine ⟨L,?_⟩;refine Tq rfl Mv (Tq rfl Px (Tq rfl Px (Tq rfl Pa ?_)));refine AF rfl ?_;refine eK ?_;refine xT ?_;rotate_left
      all_goals (refine ⟨?_,X⟩;rw [AE Ab,AE Ab,AU Ab];rfl)
   . have ab:=h2 Ab
     match kids,ab with
     | [x,y],_=>
      rcases HK.out.ext X with f|⟨b,o,rfl,hb,f⟩
      . cases f
      obtain ⟨k',n',s',c',m',d',N⟩:=f 0 x rfl;obtain ⟨a4,a5,a6,a7,a8,a9,r1⟩:=f 1 y rfl;clear h1 h2 HK f;refine eK ?_;refine AC (fun O=>Ext w2 O) 15 (.pure 0 (.pure 1 (.pure 2 (.pure 3 (.pure 4 (.pure 5 (.pure 6 (.pure 7 (.pure 8 (.pure 9 (.fork 10 (.pure 11 (.pure 12 (.pure 13 (.pure 14 .tail)))) .none))))))))))) mixed Bl (Al (Aa An)) ?_;intro au af _;have V:(fun O=>Ext w2 O) au:=af;simp only at V;have Z:=F;have E:=N;have ag:=r1;revert F X N r1;refine eY af ?_;intro ba F X N r1;refine ⟨V,?_⟩;refine eT ?_;refine Tq rfl (Dr E) ?_;refine eT ?_;refine Tq rfl (Dr ag) ?_;refine tC rfl rfl (WH _ _ _ _) ?_;rintro _ bb ⟨⟨⟩,rfl⟩;refine ⟨V,?_⟩;refine Tq rfl Mv (Tq rfl Px (Tq rfl Px (Tq rfl Pa ?_)));refine AF rfl ?_;refine eK ?_;refine xT ?_;refine ⟨?_,X⟩;rw [AE Ab,AE Ab,AE Ab];rfl
def W4 (k n:Int) (s:lB) (a:oA) (m c:Nat) (v:Int) (q:Bool) (w:wD) :
 Calls prog 271 #[.agg #[.int .u8 k,.int .i64 n,str s,.slice a m c,.int .i64 v,.bool q]] w fun e w'=>e = .returned (.agg #[.int .u8 k,.int .i64 n,str s,.slice a m c])/\Ext w w':=by
 have X:=dI w;refine Af func271 ntmps271 rfl rfl ?_;refine cS (eB [_,_,_,_,_,_] ?_);intro Y Z f M p6 z7;have X:=X.ext M;refine eA [_,_,_,_] ?_;intro b8 w9 h E N O;revert f X;refine eE E ?_;intro f X;refine eK ?_;refine eS [_,_,_,_] h ?_;intro U F L V;revert f X;refine eF L ?_;intro f X;refine eK ?_;refine xC F ?_;all_goals exact ⟨rfl,X⟩
def W5 (kids:List (Int×Bool)) (hl:kids.length<=1000000) (a:oA) (c:Nat) (w:wD) (U:KidsAt w a kids) :
 Calls prog 270 #[.slice a kids.length c,.func (.func 271) #[] #[]] w (EachR (Hz 4) 32 (kids.map fun _=>()) w):=by
 have X:=dI w;refine Af func270 ntmps270 rfl rfl ?_;refine cS (C1 Pa (cN (C1 Pa (cT (Aj (cS (C1 Mv (C1 Pz (C1 Mv (cT ?_))))))))));refine Ar ?_;refine AJ (ι:=Nat×oA×Nat) (fun x=>[(1,.func (.func 271) #[] #[]),(5,.slice x.2.1 (cB x.1 ()).length x.2.2),(8,.slice a kids.length c),(9,.int .i64 kids.length),(10,.int .i64 x.1)])
  (fun x w'=>OwnQ (Hz 4) w' (fun _=>False) w.heap.size 32 (.slice x.2.1 (cB x.1 ()).length x.2.2) (cB x.1 ())/\x.1<=kids.length/\Ext w w')
  (fun x=>kids.length-x.1) (0,none,0) sB ⟨OwnQ.nil,bI _,X⟩ ?_
 clear X;rintro ⟨j,ra,rc⟩ w1 ⟨f,hj,X⟩;simp only at f hj X;have O : ∀g,(cP ra (cB j ()).length rc).ownBlock=some g->w.heap.size<=g/\g<w1.heap.size:=fun g h=>⟨f.ge h,f.lt h⟩
 have au:=X.size;by_cases Y:j<kids.length
 . rcases U.ext X with U|⟨b,o,rfl,hb,Z⟩
   . subst U;simp at Y
   obtain ⟨k',n',s',c',m',d',V⟩:=Z j kids[j] (aY Y);have av:(cB j ()).length<=1000000:=by simp;omega
   have M:cB j ()++[()]=cB (j+1) ():=by rw [List.replicate_succ']
   clear Z U;generalize kids[j]=x at *;refine eK ?_;refine xA [_,_,_,_,_,_] ?_;intro aw ax ac;refine eI [_,_,_,_,_,_] ac ?_;intro ay L ad az a0;revert f X V;refine eE ad ?_;intro f X V;refine eK ?_;refine Au (B4 (fi:=[]) (ca:=[]) Bl rfl rfl (W4 _ _ _ _ _ _ _ _ _) (fun _ _ h=>⟨_,h.1⟩)) rfl ?_ aFh;rintro _ af ⟨⟨⟩,ae⟩;revert L f X V;refine eY ae ?_;intro ag L f X V;refine Au (xS [_,_,_,_]) rfl ?_ aFh;rintro _ ah ⟨ai,rfl,E,aj⟩;have N:=E.blk;have aa:=E.ext;have ak:=E.pos;have al:=E.size;revert L f X V;refine eE aa ?_;intro L f X V;refine DP (R:=fun _=>False) (sh:=Hz 4) (z:=()) Ac CM rfl rfl rfl rfl Bl rfl rfl rfl Ag (fun _ h=>by exact h) (eC Ag) ⟨rfl,rfl⟩ Ab Ab rfl ?_;rintro am ab an ao ap aq F;have ar:=F.size;have N:=dQ N F (fun h=>by have:=O _ h;omega);have L:=dQ L F (fun h=>by have:=O _ h;omega);clear f;have X:=eX X F (fun k U=>by have:=O _ U;omega);refine C1 Pa (Ah (Ae (Ai (Ad (C1 V7 (C1 Mv (Ah ?_)))))));rw [M];exact Aw (j+1,some ⟨_,0,none⟩,_) sB ⟨by simp only;rw [<-M];assumption,by simp only;omega,X⟩ (by simp only;omega)
 . obtain rfl:j=kids.length:=by omega
   have e:kids.map (fun _=>())=cB kids.length ():=by rw [List.map_const']
   rw [e];refine eK ?_;refine xR ?_;exact ⟨_,_,rfl,f,X⟩
def KJ (v:Int):Prop:= -9223372036854775808<=v/\v<=9223372036854775807
def Ok (v:Int):KJ (M7 v):=by
 unfold KJ M7;rw [IntKind.wrap];simp [IntKind.signed,IntKind.bits];split<;>omega
def Sj (b:Bool):KJ (Uq b):=by cases b<;>simp [Uq,KJ]
def Tt (k x:Int):KJ (GW k x).1:=by
 unfold GW;split
 . exact Ok _
 split
 . exact Sj _
 . simp [KJ]
def W6 (o:BinOp) (x y:Int):KJ (OY o x y):=by
 unfold OY;split<;>exact Ok _
def UZ {x y:Int} (h:KJ x):KJ (x.tmod y):=by
 have h1:=Int.natAbs_tmod x y;have E:=Nat.mod_le x.natAbs y.natAbs;unfold KJ at h ⊢;by_cases f:0<=x
 . have:=Int.tmod_nonneg y f;omega
 . have F:(-x).tmod y = - x.tmod y:=Int.neg_tmod ..;have L:=Int.tmod_nonneg y (show 0 <= -x by omega);omega
def W7 {c:Prop} [Decidable c] {a b:Int×Int} (h1:KJ a.1) (f:KJ b.1):KJ (if c then a else b).1:=by split<;>assumption
def Tu (k:Int) {x y:Int} (h:KJ x):KJ (GV k x y).1:=by
 unfold GV UF
 repeat' (refine W7 ?_ ?_)
 all_goals first
  | exact Ok _
  | exact Sj _
  | exact W6 _ _ _
  | exact UZ h
  | (constructor<;>decide)
def Rc {k n:Int} {kids:List (Int×Bool)} (f:KJ n) (h : ∀x∈kids,KJ x.1):KJ (Gg k n kids).1:=by
 have E:KJ (kids.getD 0 (0,false)).1:=by
  cases kids with
  | nil=>simp [KJ]
  | cons x r=>exact h x Bd
 unfold Gg
 repeat' split
 all_goals first
  | exact f
  | exact Tt _ _
  | exact Tu _ E
  | simp [KJ]
def U0 {x:Int×Bool} (h:KJ x.1):KJ (Si x).1:=by
 unfold Si;split
 . exact h
 . simp [KJ]
mutual
def PL : ∀t:Nd,t.wf->KJ t.cval.1
 | .mk k n s l,h=>by
  simp only [Nd.wf] at h;rw [Nd.cval];exact U0 (Rc ⟨h.2.2.1,h.2.2.2.1⟩ (Sm l h.2.2.2.2.2.2))
def Sm : ∀l:List Nd,A3 l -> ∀x∈G7 l,KJ x.1
 | [],_,x,hx=>by simp [G7] at hx
 | t::r,h,x,hx=>by
  simp only [A3] at h;simp only [G7,bR] at hx;rcases hx with rfl|hx
  . exact PL t h.1
  . exact Sm r h.2 x hx
end
def No {k n:Int} {s:lB} {l:List Nd} (h:(Nd.mk k n s l).isExpr=true):1<=k/\(∀x∈l,x.isExpr=true)/\(k=6\/k=7->l.length=1)/\(8<=k->l.length=2):=by
 rw [Nd.isExpr.eq_def] at h;simp only at h;split at h
 . rename_i h1;simp only [bB,List.isEmpty_iff] at h;rw [h.2];exact ⟨Ab,Bd,Ab,Ab⟩
 split at h
 . simp only [bB,List.isEmpty_iff] at h;rw [h.2];exact ⟨Ab,Bd,Ab,Ab⟩
 split at h
 . match l,h with
   | [x],h=>
    simp only [bB] at h;exact ⟨Ab,by simpa using h.2,Ab,Ab⟩
   | [],h=>simp at h
   | _::_::_,h=>simp at h
 split at h
 . match l,h with
   | [x],h=>
    simp only [bB] at h;exact ⟨Ab,by simpa using h.2,fun _=>rfl,Ab⟩
   | [],h=>simp at h
   | _::_::_,h=>simp at h
 split at h
 . match l,h with
   | [x,y],h=>
    simp only [bB] at h;exact ⟨Ab,by simpa using h.2,Ab,fun _=>rfl⟩
   | [],h=>simp at h
   | [_],h=>simp at h
   | _::_::_::_,h=>simp at h
 . simp at h
def YH (N:Nat) : ∀(t:Nd),t.size<N->t.size<=1000000->t.wf->t.isExpr=true -> ∀(S:nP) (a:oA) (c:Nat) (w:wD),t.sits S w a->Calls prog 250 #[t.val a c] w (FoldR t w):=by
 induction N with
 | zero=>intro t h;omega
 | succ N ih=>
  rintro ⟨k,n,s,l⟩ hN hM hf hx S a c w V;have ao:=Dm l;simp only [dL] at hN hM;have hR:=PL _ hf;obtain ⟨e1,e2,e3,e4⟩:=No hx;simp only [Nd.wf] at hf;have HC:=bA (fun x L=>ih x (by have:=Df L;omega) (by have:=Df L;omega) (BJ hf.2.2.2.2.2.2 x L) (e2 x L));clear ih hf hx;have Y:(l.map Nd.cval).length=l.length:=by simp
  have Z:(Nd.mk k n s l).cval=Si (Gg k n (l.map Nd.cval)):=by rw [Nd.cval,KI]
  have X:=dI w;refine Af func250 ntmps250 rfl rfl ?_;refine cS (eB [_,_,_,_] ?_);intro b1 w2 F x5 p6 z7;revert V X;refine eE x5 ?_;intro V X;refine eA [_,_,_,_,_,_] ?_;intro b8 w9 f ai az a0;revert F V X;refine eE ai ?_;intro F V X;refine eK ?_;refine eQ rfl (WY l Ab _ _ _ _ (EV Ag) HC.out) ?_;rintro _ aj ⟨aa,⟨ab,⟨⟨⟩,⟨ac,ak⟩⟩⟩⟩;revert f F V X;refine eY ak ?_;intro z21 f F V X;refine C1 Pa (cT (Aj ?_));have E:=ac.kidsAt;have HV:=bA (WZ k n s l a c (l.map Nd.cval) aa ab aj Ab E (fun h=>by rw [Y];exact e3 h) (fun h=>by rw [Y];exact e4 h) e1);have HE:=bA (W5 (l.map Nd.cval) Ab aa ab);have ad:=Z;rw [Z] at hR;clear e1 e2 e3 e4 HC V Y ac Z;generalize l.map Nd.cval=kids at *;generalize Gg k n kids=cv at *;obtain ⟨v,q⟩:=cv;dsimp only at HV;cases q
  . refine eK ?_;refine cC rfl (HV.out) ?_;rintro _ a1 ⟨⟨⟩,al⟩;revert f F X E;refine eY al ?_;intro a2 f F X E;refine eK ?_;refine eQ rfl (HE.out _ Ag) ?_;rintro _ a3 ⟨a4,⟨a5,⟨⟨⟩,⟨a6,am⟩⟩⟩⟩;revert f F X E;refine eY am ?_;intro a7 f F X E;refine C1 Pf (eV [_] [_,_,_,_] F ?_);intro ap M O aq;revert f X;refine eF O ?_;intro f X;clear E O;refine eK ?_;refine C1 (xB [_,_,_,_,_,_]) (eS [_,_,_,_,_,_] f ?_);intro ar ae af au;revert M X;refine eF af ?_;intro M X;refine eK ?_;refine xC ae ?_;exact ⟨_,_,_,_,_,_,by rw [ad];rfl,X⟩
  . refine eK ?_;refine cC rfl (HV.out) ?_;rintro _ a8 ⟨⟨⟩,an⟩;revert f F X E;refine eY an ?_;intro a9 f F X E;refine eK ?_;refine eQ rfl (Ts _ _ hR.1) ?_;rintro _ av ⟨ba,⟨bb,⟨bc,⟨bd,⟨be,⟨bf,⟨⟨⟩,ag⟩⟩⟩⟩⟩⟩⟩;revert f F X E;refine eY ag ?_;intro aw f F X E;refine C1 Mv (C1 (xB [_,_,_,_,_,_]) (eS [_,_,_,_,_,_] f ?_));intro ax ah U ay;revert F X;refine eF U ?_;intro F X;clear E U;refine eK ?_;refine xC ah ?_;exact ⟨_,_,_,_,_,_,by rw [ad];rfl,X⟩
def Nd.const (t:Nd):Int×Bool:=if t.isExpr=true then t.cval else (0,false)
def W8 (t:Nd) (hM:t.size<=1000000) (hf:t.wf) (S:nP) (a:oA) (c:Nat) (w:wD) (f:t.sits S w a):Calls prog 228 #[t.val a c] w fun e w'=>e = .returned (.tuple #[.int .i64 t.const.1,.bool t.const.2])/\Ext w w':=by
 have h:=Gt S t hf;unfold Fs at h;have X:=dI w;by_cases N:t.isExpr=true
 . have HF:=bA (YH (t.size+1) t Ab hM hf N);have Y:t.const=t.cval:=by rw [Nd.const,AU N]
   rw [Y];rw [N] at h;have Z:=bA h;clear h;refine Af func228 ntmps228 rfl rfl ?_;refine cS (eB [_,_,_,_] ?_);intro b1 w2 F x5 p6 z7;revert f X;refine eE x5 ?_;intro f X;refine eK ?_;refine cC rfl (Z.out _ _ _ Ag) ?_;rintro _ w9 ⟨⟨⟩,x8⟩;revert F f X;refine eY x8 ?_;intro aj F f X;refine eK ?_;refine eQ rfl (HF.out _ _ _ _ Ag) ?_;rintro _ ak ⟨al,⟨am,⟨an,⟨ao,⟨m15,⟨ap,⟨⟨⟩,aa⟩⟩⟩⟩⟩⟩⟩;revert F f X;refine eY aa ?_;intro aq F f X;refine xA [_,_,_,_,_,_] ?_;intro ar au ab;refine eI [_,_,_,_,_,_] ab ?_;intro O M ac av aw;revert F f X;refine eE ac ?_;intro F f X;refine eK ?_;refine AC (fun wz=>Ext O wz) 5 (.pure 0 (.pure 1 (.pure 2 (.pure 3 (.pure 4 .tail))))) mixed Bl (Aa An) ?_;intro ad U _;have L:(fun wz=>Ext O wz) ad:=U;simp only at L;have E:=M;have ag:=F;have ah:=f;revert M F f X;refine eY U ?_;intro z31 M F f X;refine ⟨L,?_⟩;refine Tq rfl Pf (Tq rfl (Db E) (Tq rfl Pf (Tq rfl (Db E) (Tq rfl Pa ?_))));refine AF rfl ?_;refine eK ?_;refine xT ?_;all_goals exact ⟨rfl,X⟩
 . have Y:t.const=(0,false):=by rw [Nd.const,AE N]
   rw [Y];rw [Bool.not_eq_true] at N;rw [N] at h;have Z:=bA h;clear h;refine Af func228 ntmps228 rfl rfl ?_;refine cS (eB [_,_,_,_] ?_);intro ax ay V ae az a0;revert f X;refine eE ae ?_;intro f X;refine eK ?_;refine cC rfl (Z.out _ _ _ Ag) ?_;rintro _ a1 ⟨⟨⟩,af⟩;revert V f X;refine eY af ?_;intro ai V f X;refine eK ?_;refine xT ?_;exact ⟨rfl,X⟩
def I4 (t:Nd) (E:t.size<=1000000) (F:t.wf) (S:nP) (a:oA) (c:Nat) (w:wD) (f:t.sits S w a):Calls prog 190 #[t.val a c] w fun e w'=>e = .returned (.bool t.const.2)/\Ext w w':=by
 have X:=dI w;refine Af func190 ntmps190 rfl rfl ?_;refine cS (eB [_,_,_,_] ?_);intro O U h L V Y;revert f X;refine eE L ?_;intro f X;refine eK ?_;refine cC rfl (W8 _ E F _ _ _ _ Ag) ?_;rintro _ Z ⟨⟨⟩,M⟩;revert h f X;refine eY M ?_;intro N h f X;refine eK ?_;refine xR ?_;exact ⟨rfl,X⟩
def Nd.idx (t:Nd) (s:lB):Bool:=decide (t.kind=3)&&(match t.kids with
 | []=>false
 | x::_=>x.ment s)
def Ea (places:List Nd) (names:List lB):Option lB:=places.findSome? fun t=>names.find? fun s=>t.idx s
def Fg (o:Option lB):lB×Int:=match o with
 | some s=>(s,8)
 | none=>([],0)
def Nd.okIdx (t:Nd):Prop:=t.kind=3->t.kids≠[]
def Np (t:Nd) (U:t.size<=1000000) (hp:t.okIdx) (s:List UInt8) (S:Nat->Prop) (a:Option Addr) (c:Nat) (w:World) (f:t.sits S w a):Calls prog 185 #[t.val a c,str s] w fun e w'=>e = .returned (.bool (t.idx s))/\Ext w w':=by
 obtain ⟨k,n,V,l⟩:=t;have X:=dI w
 by_cases h3:k=3
 . subst h3;have Y:l≠[]:=hp rfl
   match l,Y,f,U with
   | x::r,_,f,U=>
    have E:=EV f;obtain ⟨kb,ko,rfl,kS,h⟩:=Ba E Bd;obtain ⟨xa,xc,F,M⟩:=h 0 x rfl
    have Z:x.size<=1000000:=by simp only [dL,Am] at U;omega
    have N:(Nd.mk 3 n V (x::r)).idx s=x.ment s:=by unfold Nd.idx;simp [dM,dN]
    rw [N];clear h f E hp N
    show Calls prog 185 #[.agg #[.int .u8 3,.int .i64 n,str V,.slice (some ⟨kb,ko,none⟩) (r.length+1) c],str s] w _
    refine Af func185 ntmps185 rfl rfl ?_
    refine cS ?_;refine eB [_,_,_,_] ?_;intro b1 w2 O x5 p6 z7;revert X f F M;refine eE x5 ?_;intro X f F M;clear x5;refine C1 Pa (cN (C1 Pg (C1 (Pl O) (C1 V1 (C1 Mv (Lg (C1 Pf (Lg (C1 (Pl O) (Lg (C1 Pi ?_)))))))))));refine Lg (B6 [_,_,_,_] Ac rfl rfl rfl F rfl rfl rfl (Lg (C1 Mv (Lg ?_))));refine cC rfl (LT _ Z _ _ _ _ _ Ag) ?_;rintro _ w9 ⟨⟨⟩,x8⟩;have ab:=x8.size;revert O X f F M;refine eE x8 ?_;intro O X f F M;clear x8;refine C1 WD (C1 Pa (cT (BD (Be rfl rfl ?_))))
    exact ⟨rfl,X⟩
 . have N:(Nd.mk k n V l).idx s=false:=by unfold Nd.idx;simp [dM,h3]
   rw [N];refine Af func185 ntmps185 rfl rfl ?_
   refine cS ?_;refine eB [_,_,_,_] ?_;intro ac ad aa L ae af;revert f X;refine eE L ?_;intro f X;clear L;refine C1 Pa (cN (C1 Pg (C1 (Pl aa) (C1 V1 (C1 Mv (Yr (Yr (Yr (Yr (Yr (Yr ?_)))))))))));refine C1 S0 (C1 Pa (cT (BD (Be rfl rfl ?_))))
   exact ⟨rfl,X⟩
def Tv {α:Type} {f:α->Bool} {l:List α} {j:Nat} (h:j<l.length) (F:(l.take j).find? f=none):(l.take (j+1)).find? f=if f l[j]=true then some l[j] else none:=by
 rw [bE h,List.find?_append,F];by_cases E:f l[j]=true
 . simp [E]
 . simp [E]
def Tw {α:Type} {f:α->Bool} {l:List α} {j:Nat} {x:α} (h:(l.take j).find? f=some x):l.find? f=some x:=by
 rw [<-cL j l,List.find?_append,h];rfl
def Rd {α β:Type} {f:α->Option β} {l:List α} {j:Nat} (h:j<l.length) (E:(l.take j).findSome? f=none):(l.take (j+1)).findSome? f=f l[j]:=by
 rw [bE h,List.findSome?_append,E];simp
def Re {α β:Type} {f:α->Option β} {l:List α} {j:Nat} {x:β} (h:(l.take j).findSome? f=some x):l.findSome? f=some x:=by
 rw [<-cL j l,List.findSome?_append,h];rfl
def Ol (f:List Nd) (E:List lB) (hz:Am f<=1000000) (hp : ∀t∈f,t.okIdx) (hn:E.length<=1000) (S:nP) (a:oA) (c U:Nat) (no nc:Nat) (w:wD) (L:rowSits S w f a) (N:Row w ⟨U,no,none⟩ (E.map str)) :
 Calls prog 187 #[.slice a f.length c,.slice (some ⟨U,no,none⟩) E.length nc] w fun e w'=>e = .returned (.tuple #[str (Fg (Ea f E)).1,.int .i64 (Fg (Ea f E)).2])/\Ext w w':=by
 have X:=dI w;have ak:=Dm f;have HP:=bA hp;clear hp;have L:=CY _ _ L;refine Af func187 ntmps187 rfl rfl ?_;refine cS (C1 Pa (C1 Pa (cT (Aj (cS (C1 Mv (C1 Pz (C1 Mv (cT ?_)))))))));refine Ar ?_;refine AJ (ι:=Nat) (fun i=>[(1,.slice (some ⟨U,no,none⟩) E.length nc),(10,.slice a f.length c),(11,.int .i64 f.length),(12,.int .i64 i)])
  (fun i w'=>i<=f.length/\rowSits (· < w.heap.size) w' f a/\Row w' ⟨U,no,none⟩ (E.map str)/\Ext w w'/\(f.take i).findSome? (fun t=>E.find? fun s=>t.idx s)=none)
  (fun i=>f.length-i) 0 sB ⟨bI _,L,N,X,rfl⟩ ?_
 clear L N X;rintro i w1 ⟨hi,L,N,X,F⟩;by_cases O:i<f.length
 . obtain ⟨kb,ko,rfl,kS,V⟩:=Ba L (by intro e;subst e;simp at O);obtain ⟨xa,xc,rx,Y⟩:=V i f[i] (aY O);have al:=Df (bD O);have ae:=HP.out _ (bD O);have M:=Rd O F;have aa : ∀s,E.find? (fun s=>f[i].idx s)=some s->Fg (Ea f E)=(s,8):=fun s h=>by rw [Ea,Re (M.trans h)];rfl
   clear V HP F;generalize f[i]=x at *;refine eK ?_;refine xA [_,_,_,_] ?_;intro ab am af;refine eI [_,_,_,_] af ?_;intro an ac ag ao ap;revert N X L rx Y;refine eE ag ?_;intro N X L rx Y;refine cN (C1 Mv (C1 Pz (C1 Mv (cT ?_))));refine Ar ?_;refine AJ (ι:=Nat) (fun j=>[(1,.slice (some ⟨U,no,none⟩) E.length nc),(10,.slice (some ⟨kb,ko,none⟩) f.length c),(11,.int .i64 f.length),(12,.int .i64 i),(7,.pointer (some ⟨ab,0,none⟩)),(16,.slice (some ⟨U,no,none⟩) E.length nc),(17,.int .i64 E.length),(18,.int .i64 j)])
    (fun j w'=>j<=E.length/\Blk w' ab (x.cells xa xc)/\x.sits (· < w.heap.size) w' xa/\rowSits (· < w.heap.size) w' f (some ⟨kb,ko,none⟩)/\Row w' ⟨U,no,none⟩ (E.map str)/\Ext w w'/\(E.take j).find? (fun s=>x.idx s)=none)
    (fun j=>E.length-j) 0 sB ⟨bI _,ac,Y,L,N,X,rfl⟩ ?_
   clear ac Y L N X rx;rintro j w2 ⟨hj,hb,Y,L,N,X,F⟩;by_cases Z:j<E.length
   . have r1:Row w2 ⟨U,no+j*1,none⟩ [str E[j]]:=by
      have:=N.sub j 1;rw [cW (by simpa using Z)] at this;simpa using this
     have ad:=Tv Z F;have ah:x.idx E[j]=true->Fg (Ea f E)=(E[j],8):=fun h=>aa _ (Tw (ad.trans (AU h)))
     have HI:=bA (Np x Ab ae E[j]);clear F aa M;generalize E[j]=y at *;generalize x.idx y=q at *
     focus
      refine eK ?_;refine cC rfl (HI.out _ _ _ _ Ag) ?_;rintro _ aq ⟨⟨⟩,ai⟩;revert hb Y L N X r1;refine eY ai ?_;intro ar hb Y L N X r1;refine cT ?_;refine CV rfl (fun aj=>?_) (fun aj=>?_);refine eK ?_;refine xT ?_;rotate_left;refine As (Ae (Ai (Ad (C1 V7 (C1 Mv (Ah ?_))))));rotate_left
     . exact ⟨by rw [ah Ag],X⟩
     . exact Aw (j+1) sB ⟨Ab,hb,Y,L,N,X,ad.trans (AE (by simp [*]))⟩ Ab
   . obtain rfl:j=E.length:=by omega
     rw [bH] at F;refine cS (C1 V3 (cT (Aj (C9 (CB (AG (AG (A8 (Ae (Ai (Ad ?_)))))))))));refine C1 V7 (C1 Mv (Ah ?_));exact Aw (i+1) sB ⟨Ab,L,N,X,M.trans F⟩ Ab
 . obtain rfl:i=f.length:=by omega
   rw [bH] at F;have he:Fg (Ea f E)=([],0):=by rw [Ea,F];rfl
   rw [he];refine eK ?_;refine xT ?_;exact ⟨rfl,X⟩
def Tx (t x:Nd) (a xa:oA) (c xc f:Nat) (w:wD) (h:Blk w f (x.cells xa xc)):Calls prog 189 #[t.val a c,.pointer (some ⟨f,0,none⟩)] w fun e w'=>e = .returned (.bool (decide (t.name=x.name)))/\Ext w w':=by
 have X:=dI w;refine Af func189 ntmps189 rfl rfl ?_;refine cS (eB [_,_,_,_] ?_);intro F L M E N O;revert h X;refine eE E ?_;intro h X;refine eK ?_;refine xR ?_;exact ⟨rfl,X⟩
def Rf (s:lB) (l:List Nd):Int:=match l.findIdx? (fun t=>decide (t.name=s)) with
 | some i=>(i:Int)
 | none=> -1
def Om {α:Type} {f:α->Bool} {l:List α} {j:Nat} (h:j<l.length) (F:(l.take j).findIdx? f=none):(l.take (j+1)).findIdx? f=if f l[j]=true then some j else none:=by
 rw [bE h,List.findIdx?_append,F];by_cases E:f l[j]=true
 . simp [E,List.findIdx?_cons];omega
 . simp [E,List.findIdx?_cons]
def On {α:Type} {f:α->Bool} {l:List α} {j i:Nat} (h:(l.take j).findIdx? f=some i):l.findIdx? f=some i:=by
 rw [<-cL j l,List.findIdx?_append,h];rfl
def U1 (l:List Nd) (hl:l.length<=1000000) (x:Nd) (S:nP) (a xa:oA) (c xc N:Nat) (w:wD) (f:rowSits S w l a) (M:Blk w N (x.cells xa xc)) :
 Calls prog 227 #[.slice a l.length c,.func (.func 189) #[] #[.pointer (some ⟨N,0,none⟩)]] w fun e w'=>e = .returned (.int .i64 (Rf x.name l))/\Ext w w':=by
 have X:=dI w;have f:=CY _ _ f;refine Af func227 ntmps227 rfl rfl ?_;refine cS (C1 Pa (cT (Aj (cS (C1 Mv (C1 Pz (C1 Mv (cT ?_))))))));refine Ar ?_;refine AJ (ι:=Nat) (fun j=>[(0,.slice a l.length c),(1,.func (.func 189) #[] #[.pointer (some ⟨N,0,none⟩)]),(6,.slice a l.length c),(7,.int .i64 l.length),(8,.int .i64 j)])
  (fun j w'=>j<=l.length/\rowSits (· < w.heap.size) w' l a/\Blk w' N (x.cells xa xc)/\Ext w w'/\(l.take j).findIdx? (fun t=>decide (t.name=x.name))=none)
  (fun j=>l.length-j) 0 sB ⟨bI _,f,M,X,rfl⟩ ?_
 clear f M X;rintro j w1 ⟨hj,f,M,X,E⟩;by_cases L:j<l.length
 . obtain ⟨kb,ko,rfl,kS,F⟩:=Ba f (by intro e;subst e;simp at L);obtain ⟨ya,yc,Z,sy⟩:=F j l[j] (aY L);have O:=Om L E;have U:l[j].name=x.name->Rf x.name l=j:=fun h=>by
    rw [AU (by simpa using h)] at O;rw [Rf,On O]
   clear F E;generalize l[j]=y at *
   focus
    refine eK ?_;refine Au (B4 (fi:=[]) (ca:=[.pointer (some ⟨N,0,none⟩)]) Bl rfl rfl (Tx _ x _ xa _ xc _ _ Ag) (fun _ _ h=>⟨_,h.1⟩)) rfl ?_ aFh;rintro _ aa ⟨⟨⟩,V⟩;revert M X f Z sy;refine eY V ?_;intro ab M X f Z sy;refine cT ?_;refine AH rfl (fun Y=>?_) (fun Y=>?_);refine eK ?_;refine xR ?_;rotate_left;refine As (Ae (Ai (Ad (C1 V7 (C1 Mv (Ah ?_))))));rotate_left
   . exact ⟨by rw [U Ag],X⟩
   . exact Aw (j+1) sB ⟨Ab,f,M,X,O.trans (AE (by simpa using Ag))⟩ Ab
 . obtain rfl:j=l.length:=by omega
   rw [bH] at E;have he:Rf x.name l = -1:=by rw [Rf,E]
   rw [he];refine eK ?_;refine xR ?_;exact ⟨rfl,X⟩
def U2 (s:lB) (l:List Nd):decide (0<=Rf s l)=l.any (fun t=>decide (t.name=s)):=by
 unfold Rf;cases h:l.findIdx? (fun t=>decide (t.name=s)) with
 | none=>
  rw [List.findIdx?_eq_none_iff] at h;have:l.any (fun t=>decide (t.name=s))=false:=by rw [List.any_eq_false];intro x f;simpa using h x f
  rw [this];rfl
 | some i=>
  have E:=List.findIdx?_eq_some_iff_getElem.1 h;obtain ⟨F,L,-⟩:=E;have:l.any (fun t=>decide (t.name=s))=true:=List.any_eq_true.2 ⟨l[i],bD F,L⟩;rw [this];simp
def PM (l:List Nd) (F:l.length<=1000000) (x:Nd) (S:nP) (a xa:oA) (c xc f:Nat) (w:wD) (h:rowSits S w l a) (E:Blk w f (x.cells xa xc)) :
 Calls prog 188 #[.slice a l.length c,.func (.func 189) #[] #[.pointer (some ⟨f,0,none⟩)]] w fun e w'=>e = .returned (.bool (l.any fun t=>decide (t.name=x.name)))/\Ext w w':=by
 have X:=dI w;rw [<-U2];refine Af func188 ntmps188 rfl rfl ?_;refine eK ?_;refine cC rfl (U1 l F x _ _ xa _ xc _ _ Ag Ag) ?_;rintro _ M ⟨⟨⟩,L⟩;revert h E X;refine eY L ?_;intro z3 h E X;refine eK ?_;refine xR ?_;exact ⟨rfl,X⟩
def PN:List Nd->List Nd->Option lB
 | _,[]=>none
 | acc,t::r=>if acc.any (fun u=>decide (u.name=t.name))=true then some t.name else PN (acc++[t]) r
def H2:Nd->lB×Int
 | .mk k _ s l=>
  if k=56 then ((l.getD 0 BI).name,9)
  else if 40<=k/\k<=42 then (if ((l.getD 0 BI).idx (l.getD 0 BI).name||(l.getD 1 BI).ment (l.getD 0 BI).name)=true then ((l.getD 0 BI).name,8) else ([],0))
  else if k=43 then Fg (Ea l [(l.getD 0 BI).name,(l.getD 1 BI).name])
  else if 44<=k/\k<=45 then Fg (Ea l [(l.getD 0 BI).name,s])
  else if 46<=k/\k<=49 then Fg (Ea l [(l.getD 0 BI).name])
  else if 50<=k/\k<=51 then Fg (PN [] l)
  else if k=52 then (if ((l.getD 3 BI).const.2 && !(l.getD 0 BI).const.2)=true then ([],10) else ([],0))
  else if k=53 then (if (l.getD 0 BI).const.2=true then ([],10) else ([],0))
  else ([],0)
def Fv (k n:Int) (s:lB) (l:List Nd):H2 (.mk k n s l)=if k=56 then ((l.getD 0 BI).name,9)
 else if 40<=k/\k<=42 then (if ((l.getD 0 BI).idx (l.getD 0 BI).name||(l.getD 1 BI).ment (l.getD 0 BI).name)=true then ((l.getD 0 BI).name,8) else ([],0))
 else if k=43 then Fg (Ea l [(l.getD 0 BI).name,(l.getD 1 BI).name])
 else if 44<=k/\k<=45 then Fg (Ea l [(l.getD 0 BI).name,s])
 else if 46<=k/\k<=49 then Fg (Ea l [(l.getD 0 BI).name])
 else if 50<=k/\k<=51 then Fg (PN [] l)
 else if k=52 then (if ((l.getD 3 BI).const.2 && !(l.getD 0 BI).const.2)=true then ([],10) else ([],0))
 else if k=53 then (if (l.getD 0 BI).const.2=true then ([],10) else ([],0))
 else ([],0):=rfl
def JB {S:nP} {w:wD} : ∀(l:List Nd) (i:Nat) (a:oA),rowSits S w l a->rowSits S w (l.take i) a
 | _,0,_,_=>by simp [rowSits]
 | [],_+1,_,_=>by simp [rowSits]
 | t::r,i+1,a,h=>by
  simp only [dE,rowSits] at h ⊢;obtain ⟨b,o,f,c,rfl,h1,E,F,L,M,N,O⟩:=h;exact ⟨b,o,f,c,rfl,h1,E,F,L,M,N,JB r i _ O⟩
def Nd.good (t:Nd):Prop:=t.isStmt=true\/t.isBlock=true\/t.isExpr=true
def Ty {t:Nd} (h:t.good) (h1:40<=t.kind) (f:t.kind<=56):t.isStmt=true:=by
 rcases h with h|h|h
 . exact h
 . obtain ⟨e,-⟩:=EU h;rw [e] at f;simp only [dM] at f;omega
 . have:=J3 h;omega
def F6 {t:Nd} (h:t.isPlace=true):t.okIdx:=by
 intro f e;have E:=Bq h;obtain ⟨k,n,s,l⟩:=t;simp only [dM,dN] at f e;subst f e;rw [Nd.isExpr.eq_def] at E;simp at E
def PO {k n:Int} {s:lB} {l:List Nd} (h:(Nd.mk k n s l).isStmt=true) (f:k=56\/(40<=k/\k<=42)) : ∃x y,l=[x,y]/\x.isPlace=true/\y.isExpr=true:=by
 cases Ds h<;>first|omega|exact ⟨_,_,rfl,Ag,Ag⟩
def Tz {n:Int} {s:lB} {l:List Nd} (h:(Nd.mk 43 n s l).isStmt=true) : ∃x y,l=[x,y]/\x.isPlace=true/\y.isPlace=true:=by
 cases Ds h<;>first|omega|exact ⟨_,_,rfl,Ag,Ag⟩
def Sn {k n:Int} {s:lB} {l:List Nd} (h:(Nd.mk k n s l).isStmt=true) (f:44<=k/\k<=49) : ∃x,l=[x]/\x.isPlace=true:=by
 cases Ds h<;>first|omega|exact ⟨_,rfl,Ag⟩
def KK {k n:Int} {s:lB} {l:List Nd} (h:(Nd.mk k n s l).isStmt=true) (f:k=52\/k=53) : ∃x y z u,l=[x,y,z,u]/\x.isExpr=true/\u.isExpr=true:=by
 cases Ds h<;>first|omega|exact ⟨_,_,_,_,rfl,Ag,Ag⟩
set_option maxHeartbeats 8000000 in
def U3 (t:Nd) (hz:t.size<=1000000) (hf:t.wf) (hg:t.good) (S:Nat->Prop) (a:Option Addr) (c:Nat) (w:World) (L:t.sits S w a) (bw:t.kids.length<=c):Calls prog 138 #[t.val a c] w fun e w'=>e = .returned (.tuple #[str (H2 t).1,.int .i64 (H2 t).2])/\Ext w w':=by
 have bx:=Ty hg;clear hg;obtain ⟨k,n,s,l⟩:=t;replace L:=CY _ _ (EV L);have cw:=Dm l;have HZ:=bA (fun x (hx:x∈l)=>Df hx)
 have d9:Am l<=1000000:=by simp only [dL] at hz;omega
 have HF:=bA (fun x (hx:x∈l)=>BJ (by simp only [Nd.wf] at hf;exact hf.2.2.2.2.2.2) x hx);have HT:=bA (fun h1 h2=>bx h1 h2);simp only [dM] at HT;clear bx hf hz;simp only [dN] at bw;have X:=dI w
 show Calls prog 138 #[.agg #[.int .u8 k,.int .i64 n,str s,.slice a l.length c]] w _
 refine Af func138 ntmps138 rfl rfl ?_
 focus
  refine cS ?_;refine eB [_,_,_,_] ?_;intro b1 w2 f x5 p6 z7;revert L X;refine eE x5 ?_;intro L X;clear x5;refine C1 Pa (C1 Pa (cT (Aj (cS (C1 Pg (C1 (Pl f) (cT (Ar (cS (C1 V1 (C1 Pa ?_)))))))))));refine cT ?_;refine AH rfl (fun c8=>?_) (fun c8=>?_);rotate_left;refine Aj ?_;rotate_left
 . obtain ⟨x,y,rfl,hx,hy⟩:=PO (HT.out Ab Ab) (bC Ab);obtain ⟨kb,ko,rfl,kS,E⟩:=Ba L Bd;obtain ⟨xa,xc,F,N⟩:=E 0 x rfl
   have he:H2 (.mk k n s [x,y])=(x.name,9):=by rw [Fv,AU Ab];rfl
   rw [he];clear L E he;replace f:Blk w2 b1 [.int .u8 k,.int .i64 n,str s,.slice (some ⟨kb,ko,none⟩) 2 c]:=f
   refine cS (C1 Pf (C1 (Pl f) (C1 Pi (C1 Pf (C1 (Pw F) (C1 Pa (C1 Pa (cT (BD (AV (AL ?_)))))))))));refine CC rfl rfl rfl ?_
   exact ⟨rfl,X⟩
 refine Ff (ι:=Unit) (fun _=>[(1,.pointer (some ⟨b1,0,none⟩)),(10,.int .u8 k),(18,.bool (decide (40<=k/\k<=42)))]) (fun _ w'=>w'=w2) ?_ ?_
 . focus
    refine cS (C1 V1 (C1 Pa (cT ?_)));refine AH rfl (fun b5=>?_) (fun b5=>?_);refine As ?_;rotate_left;refine cS (C1 V1 (C1 Pa (cT ?_)));refine AH rfl (fun b6=>?_) (fun b6=>?_);refine As ?_;rotate_left;refine Ad (C1 V1 (C1 Pa (Ah ?_)));rotate_left
   all_goals exact BL () (Ak rfl (Ak rfl (AW rfl (congrArg dF (decide_eq_decide.2 Ab)) AY))) rfl
 rintro-u1 h;subst h
 focus
  refine AH rfl (fun b7=>?_) (fun b7=>?_);rotate_left;rotate_left
 . obtain ⟨x,y,rfl,hx,hy⟩:=PO (HT.out Ab Ab) (bF Ab);obtain ⟨kb,ko,rfl,kS,E⟩:=Ba L Bd;obtain ⟨xa,xc,F,N⟩:=E 0 x rfl;obtain ⟨ya,yc,U,V⟩:=E 1 y rfl
   have he:H2 (.mk k n s [x,y])=if (x.idx x.name||y.ment x.name)=true then (x.name,8) else ([],0):=by rw [Fv,AE Ab,AU Ab];rfl
   have HI:=bA (Np x (by have:=HZ.out x Bd;omega) (F6 hx) x.name);have HM:=bA (LT y (by have:=HZ.out y Bd;omega) x.name);rw [he];clear L E he
   generalize x.idx x.name=q at *
   generalize y.ment x.name=p at *
   replace f:Blk u1 b1 [.int .u8 k,.int .i64 n,str s,.slice (some ⟨kb,ko,none⟩) 2 c]:=f
   focus
    refine cS (C1 Pf (C1 (Pl f) (C1 Pi (C1 Pf (C1 (Pw F) (C1 Pa (cN (C1 Pf (C1 (Pl f) (C1 Pi (B6 [_,_,_,_] Ac rfl rfl rfl F rfl rfl rfl ?_)))))))))));refine C1 Mv ?_;refine cC rfl (HI.out _ _ _ _ Ag) ?_;rintro _ ea ⟨⟨⟩,br⟩;have eb:=br.size;revert X F N U V f;refine eE br ?_;intro X F N U V f;clear br;refine C1 Mv ?_;refine GR rfl rfl rfl (fun b8=>?_) (fun b8=>?_);refine AP rfl rfl rfl (Kx Ag) rfl ?_;refine AP rfl rfl rfl (Kx Ag) rfl ?_;refine AP rfl rfl rfl (Kx Ag) rfl ?_;refine AP rfl rfl rfl (Kx Ag) rfl ?_;refine AP rfl rfl rfl (Kx Ag) rfl ?_;refine AP rfl rfl rfl (Kx Ag) rfl ?_;refine C1 (Bc rfl rfl Ag) ?_;refine cT (CK rfl (cS (C1 Mv (C1 Pa (C1 Pa (cT (BD (AV (AL (CC rfl rfl rfl ?_))))))))));rotate_left;refine A2 rfl rfl rfl (Ky Ag) ?_;refine C1 Pf ?_;refine A2 rfl rfl rfl (Ky Ag) ?_;refine C1 (Pl f) ?_;refine A2 rfl rfl rfl (Ky Ag) ?_;refine C1 Pi ?_;refine A2 rfl rfl rfl (Ky Ag) ?_;refine C1 (Uz U) ?_;refine A2 rfl rfl rfl (Ky Ag) ?_;refine C1 Mv ?_;refine A2 rfl rfl rfl (Ky Ag) ?_;refine cC rfl (HM.out _ _ _ _ Ag) ?_;rintro _ ec ⟨⟨⟩,bs⟩;have ed:=bs.size;revert X F N U V f
    refine eE bs ?_;intro X F N U V f;clear bs;refine C1 (By rfl rfl Ag) ?_;refine cT ?_;refine CV rfl (fun b9=>?_) (fun b9=>?_);refine cS (C1 Mv (C1 Pa (C1 Pa (cT (BD (AV (AL (CC rfl rfl rfl ?_))))))));rotate_left;refine As (Ae (Ai (cS (C1 Pa (C1 Pa (cT (BD (CC rfl rfl rfl ?_))))))));rotate_left
   all_goals exact ⟨by simp [*],X⟩
 focus
  refine cS (C1 V1 (C1 Pa (cT ?_)));refine AH rfl (fun ca=>?_) (fun ca=>?_);rotate_left;refine Aj ?_;rotate_left
 . have hk:k=43:=by assumption
   subst hk;obtain ⟨x,y,rfl,hx,hy⟩:=Tz (HT.out Ab Ab);obtain ⟨kb,ko,rfl,kS,E⟩:=Ba L Bd;obtain ⟨xa,xc,F,N⟩:=E 0 x rfl;obtain ⟨ya,yc,U,V⟩:=E 1 y rfl
   have he:H2 (.mk 43 n s [x,y])=Fg (Ea [x,y] [x.name,y.name]):=by rw [Fv,AE Ab,AE Ab,AU Ab];rfl
   have HA:=bA (Ol [x,y] [x.name,y.name] Ab (fun t ht=>by simp at ht;rcases ht with rfl|rfl<;>exact F6 Ag) Bd);rw [he];clear E he;replace f:Blk u1 b1 [.int .u8 43,.int .i64 n,str s,.slice (some ⟨kb,ko,none⟩) 2 c]:=f
   focus
    refine Aj ?_;refine AC (fun wz=>Ext u1 wz) 11 (.pure 0 (.pure 1 (.pure 2 (.pure 3 (.pure 4 (.pure 5 (.pure 6 (.pure 7 (.fork 8 (.fork 9 (.fork 10 .tail .none) .none) (.fork 9 (.fork 8 (.fork 10 .tail .none) .none) .none)))))))))) mixed Bl (Aa (Al (Aa An))) ?_;intro cb a5 _;have M:(fun wz=>Ext u1 wz) cb:=a5;simp only at M;have ae:=L;have Y:=F;have af:=N;have ar:=U;have a9:=V;have O:=f;have ee:=a5.size;revert X L F N U V f;refine eE a5 ?_;intro X L F N U V f;clear a5;refine ⟨M,?_⟩;refine Tq rfl Pf (Tq rfl (Db O) (Tq rfl Pi (Tq rfl (Br [_,_,_,_] Ac rfl rfl rfl (fun wz hz=>(Row.ext Y hz)) rfl rfl) (Tq rfl Pf (Tq rfl (Db O) (Tq rfl Pi (Tq rfl (A6 Ac rfl rfl rfl (fun wz hz=>(Row.ext ar hz)) rfl) ?_)))))));refine A1 rfl (C4 CM rfl) rfl ?_ aFh ?krf5;rintro _ ef ⟨eg,rfl,au⟩;have av:=au.blk;dsimp only at av;have ba:=au.ext;have cx:=au.pos;have cy:=au.size;clear au;revert M X L F N U V f;refine eE ba ?_;intro M X L F N U V f;clear ba;refine ⟨M,?_⟩;refine A1 rfl (C4 CM rfl) rfl ?_ aFh A7;rintro _ cz ⟨c0,rfl,ag⟩;have ah:=ag.blk;dsimp only at ah;have bb:=ag.ext;have c1:=ag.pos;have c2:=ag.size;clear ag;revert av M X L F N U V f
    refine eE bb ?_;intro av M X L F N U V f;clear bb;refine ⟨M,?_⟩;refine Jf [_,_,_,_] [_,_,_,_] rfl Ac rfl rfl rfl rfl rfl rfl av rfl rfl ?_ A7;intro c3 ap;have ab:=ap.blk;have bc:=ap.fr;have c4:=ap.size;clear ap av;revert ah M X L F N U V f;refine eF bc ?_;intro ah M X L F N U V f;clear bc;refine ⟨M,?_⟩;clear ae Y af ar a9 O M;refine AF rfl ?_;refine eS [_,_,_,_] ah ?_;intro c5 ai bd c6;clear ah;revert ab X L F N U V f;refine eF bd ?_;intro ab X L F N U V f;clear bd;refine cN (C1 Pf (C1 (Pl f) (C1 Pf (C1 (Pl ab) (C1 Pf (C1 (Pl ai) ?_))))));refine Au (Es [_,_] Ac CM rfl rfl rfl rfl rfl rfl rfl rfl rfl) rfl ?_ aFh;rintro _ c7 ⟨c9,rfl,aj,bz⟩;clear bz;have be:=aj.blk;have bf:=aj.ext;have da:=aj.pos;have db:=aj.size;clear aj;revert ai ab X L F N U V f;refine eE bf ?_;intro ai ab X L F N U V f;clear bf;refine cC rfl (HA.out _ _ _ _ _ _ _ Ag (eC Ag)) ?_;rintro _ dc ⟨⟨⟩,aw⟩;have dd:=aw.size;revert be ai ab X L F N U V f;refine eE aw ?_;intro be ai ab X L F N U V f;clear aw;refine C1 Px (C1 Px (C1 Pa (C1 Pa (cT (BD (AV (AL (CC rfl rfl rfl ?_))))))));rotate_left;refine A1 rfl (C4 CM rfl) rfl ?_ aFh A7
    rintro _ de ⟨df,rfl,ak⟩;have ac:=ak.blk;dsimp only at ac;have bg:=ak.ext;have dg:=ak.pos;have dh:=ak.size;clear ak;revert M X L F N U V f;refine eE bg ?_;intro M X L F N U V f;clear bg;refine ⟨M,?_⟩;refine A1 rfl (C4 CM rfl) rfl ?_ aFh A7;rintro _ di ⟨dk,rfl,al⟩;have ax:=al.blk;dsimp only at ax;have bh:=al.ext;have dl:=al.pos;have dm:=al.size;clear al;revert ac M X L F N U V f;refine eE bh ?_;intro ac M X L F N U V f;clear bh;refine ⟨M,?_⟩;refine Jf [_,_,_,_] [_,_,_,_] rfl Ac rfl rfl rfl rfl rfl rfl ax rfl rfl ?_ A7;intro dn aq;have ad:=aq.blk;have bi:=aq.fr;have dp:=aq.size;clear aq ax;revert ac M X L F N U V f;refine eF bi ?_;intro ac M X L F N U V f;clear bi;refine ⟨M,?_⟩;clear ae Y af ar a9 O M;refine AF rfl ?_;refine eS [_,_,_,_] ac ?_;intro dq am bj dr;clear ac;revert ad X L F N U V f;refine eF bj ?_;intro ad X L F N U V f;clear bj;refine cN (C1 Pf (C1 (Pl f) (C1 Pf (C1 (Pl ad) (C1 Pf (C1 (Pl am) ?_))))));refine Au (Es [_,_] Ac CM rfl rfl rfl rfl rfl rfl rfl rfl rfl) rfl ?_ aFh;rintro _ ds ⟨dt,rfl,an,b0⟩;clear b0;have bk:=an.blk;have bl:=an.ext;have du:=an.pos;have dv:=an.size
    clear an;revert am ad X L F N U V f;refine eE bl ?_;intro am ad X L F N U V f;clear bl;refine cC rfl (HA.out _ _ _ _ _ _ _ Ag (eC Ag)) ?_;rintro _ dw ⟨⟨⟩,ay⟩;have dx:=ay.size;revert bk am ad X L F N U V f;refine eE ay ?_;intro bk am ad X L F N U V f;clear ay;refine C1 Px (C1 Px (C1 Pa (C1 Pa (cT (BD (AV (AL (CC rfl rfl rfl ?_))))))));rotate_left
   all_goals exact ⟨rfl,X⟩
 refine Ff (ι:=Unit) (fun _=>[(1,.pointer (some ⟨b1,0,none⟩)),(10,.int .u8 k),(62,.bool (decide (44<=k/\k<=45)))]) (fun _ w'=>w'=u1) ?_ ?_
 . focus
    refine cS (C1 V1 (C1 Pa (cT ?_)));refine AH rfl (fun cc=>?_) (fun cc=>?_);refine As ?_;rotate_left;refine Ad (C1 V1 (C1 Pa (Ah ?_)));rotate_left
   all_goals exact BL () (Ak rfl (Ak rfl (AW rfl (congrArg dF (decide_eq_decide.2 Ab)) AY))) rfl
 rintro-u2 h;subst h
 focus
  refine AH rfl (fun cd=>?_) (fun cd=>?_);rotate_left;refine Aj ?_;rotate_left
 . obtain ⟨x,rfl,hx⟩:=Sn (HT.out Ab Ab) Ab;obtain ⟨kb,ko,rfl,kS,E⟩:=Ba L Bd;obtain ⟨xa,xc,F,N⟩:=E 0 x rfl
   have he:H2 (.mk k n s [x])=Fg (Ea [x] [x.name,s]):=by rw [Fv,AE Ab,AE Ab,AE Ab,AU Ab];rfl
   have HA:=bA (Ol [x] [x.name,s] Ab (fun t ht=>by simp at ht;subst ht;exact F6 hx) Bd);rw [he];clear E he;replace f:Blk u2 b1 [.int .u8 k,.int .i64 n,str s,.slice (some ⟨kb,ko,none⟩) 1 c]:=f
   focus
    refine Aj ?_;refine AC (fun wz=>Ext u2 wz) 13 (.pure 0 (.pure 1 (.pure 2 (.pure 3 (.pure 4 (.pure 5 (.pure 6 (.pure 7 (.pure 8 (.fork 9 (.fork 10 (.pure 11 (.pure 12 .tail)) .none) .none)))))))))) mixed Bl (Aa (Al (Aa An))) ?_;intro ce a6 _;have Z:(fun wz=>Ext u2 wz) ce:=a6;simp only at Z;have ae:=L;have Y:=F;have af:=N;have O:=f;have eh:=a6.size;revert X L F N f;refine eE a6 ?_;intro X L F N f;clear a6;refine ⟨Z,?_⟩;refine Tq rfl Pf (Tq rfl (Db O) (Tq rfl Pf (Tq rfl (Db O) (Tq rfl Pi (Tq rfl Pf (Tq rfl (Dr Y) (Tq rfl Pf (Tq rfl (Db O) ?_))))))));refine A1 rfl (Es [_,_] Ac CM rfl rfl rfl rfl rfl rfl rfl rfl rfl) rfl ?_ aFh A7;rintro _ ei ⟨ej,rfl,az,cf⟩;clear cf;have bm:=az.blk;have bn:=az.ext;have dy:=az.pos;have dz:=az.size;clear az;revert Z X L F N f;refine eE bn ?_;intro Z X L F N f;clear bn;refine ⟨Z,?_⟩;refine A1 rfl (Bb Bl rfl (HA.out _ _ _ _ _ _ _ Ag (eC Ag)) (fun _ _ h=>⟨_,h.1⟩)) rfl ?_ aFh A7;rintro _ d0 ⟨⟨⟩,a0⟩;have d1:=a0.size;revert bm Z X L F N f;refine eE a0 ?_;intro bm Z X L F N f;clear a0;refine ⟨Z,?_⟩;refine Tq rfl Px (Tq rfl Px ?_);clear ae Y af O Z;refine AF rfl (C1 Pa (C1 Pa (cT (BD (AV (AL (CC rfl rfl rfl ?_)))))))
    rotate_left
   all_goals exact ⟨rfl,X⟩
 refine Ff (ι:=Unit) (fun _=>[(1,.pointer (some ⟨b1,0,none⟩)),(10,.int .u8 k),(78,.bool (decide (46<=k/\k<=49)))]) (fun _ w'=>w'=u2) ?_ ?_
 . focus
    refine cS (C1 V1 (C1 Pa (cT ?_)));refine AH rfl (fun cg=>?_) (fun cg=>?_);refine As ?_;rotate_left;refine cS (C1 V1 (C1 Pa (cT ?_)));refine AH rfl (fun ch=>?_) (fun ch=>?_);refine As ?_;rotate_left;refine cS (C1 V1 (C1 Pa (cT ?_)));refine AH rfl (fun ci=>?_) (fun ci=>?_);refine As ?_;rotate_left;refine Ad (C1 V1 (C1 Pa (Ah ?_)));rotate_left
   all_goals exact BL () (Ak rfl (Ak rfl (AW rfl (congrArg dF (decide_eq_decide.2 Ab)) AY))) rfl
 rintro-u3 h;subst h
 focus
  refine AH rfl (fun cj=>?_) (fun cj=>?_);rotate_left;refine Aj ?_;rotate_left
 . obtain ⟨x,rfl,hx⟩:=Sn (HT.out Ab Ab) Ab;obtain ⟨kb,ko,rfl,kS,E⟩:=Ba L Bd;obtain ⟨xa,xc,F,N⟩:=E 0 x rfl
   have he:H2 (.mk k n s [x])=Fg (Ea [x] [x.name]):=by rw [Fv,AE Ab,AE Ab,AE Ab,AE Ab,AU Ab];rfl
   have HA:=bA (Ol [x] [x.name] Ab (fun t ht=>by simp at ht;subst ht;exact F6 hx) Bd);rw [he];clear E he;replace f:Blk u3 b1 [.int .u8 k,.int .i64 n,str s,.slice (some ⟨kb,ko,none⟩) 1 c]:=f
   focus
    refine Aj ?_;refine AC (fun wz=>Ext u3 wz) 11 (.pure 0 (.pure 1 (.pure 2 (.pure 3 (.pure 4 (.pure 5 (.pure 6 (.fork 7 (.fork 8 (.pure 9 (.pure 10 .tail)) .none) .none)))))))) mixed Bl (Aa (Al (Aa An))) ?_;intro ck a7 _;have aa:(fun wz=>Ext u3 wz) ck:=a7;simp only at aa;have ae:=L;have Y:=F;have af:=N;have O:=f;have ek:=a7.size;revert X L F N f;refine eE a7 ?_;intro X L F N f;clear a7;refine ⟨aa,?_⟩;refine Tq rfl Pf (Tq rfl (Db O) (Tq rfl Pf (Tq rfl (Db O) (Tq rfl Pi (Tq rfl Pf (Tq rfl (Dr Y) ?_))))));refine A1 rfl (Es [_] Ac CM rfl rfl rfl rfl rfl rfl rfl rfl rfl) rfl ?_ aFh A7;rintro _ el ⟨em,rfl,a1,cl⟩;clear cl;have bo:=a1.blk;have bp:=a1.ext;have d2:=a1.pos;have d3:=a1.size;clear a1;revert aa X L F N f;refine eE bp ?_;intro aa X L F N f;clear bp;refine ⟨aa,?_⟩;refine A1 rfl (Bb Bl rfl (HA.out _ _ _ _ _ _ _ Ag (eC Ag)) (fun _ _ h=>⟨_,h.1⟩)) rfl ?_ aFh A7;rintro _ d4 ⟨⟨⟩,a2⟩;have d5:=a2.size;revert bo aa X L F N f;refine eE a2 ?_;intro bo aa X L F N f;clear a2;refine ⟨aa,?_⟩;refine Tq rfl Px (Tq rfl Px ?_);clear ae Y af O aa;refine AF rfl (C1 Pa (C1 Pa (cT (BD (AV (AL (CC rfl rfl rfl ?_)))))))
    rotate_left
   all_goals exact ⟨rfl,X⟩
 refine Ff (ι:=Unit) (fun _=>[(1,.pointer (some ⟨b1,0,none⟩)),(10,.int .u8 k),(94,.bool (decide (50<=k/\k<=51)))]) (fun _ w'=>w'=u3) ?_ ?_
 . focus
    refine cS (C1 V1 (C1 Pa (cT ?_)));refine AH rfl (fun cm=>?_) (fun cm=>?_);refine As ?_;rotate_left;refine Ad (C1 V1 (C1 Pa (Ah ?_)));rotate_left
   all_goals exact BL () (Ak rfl (Ak rfl (AW rfl (congrArg dF (decide_eq_decide.2 Ab)) AY))) rfl
 rintro-u4 h;subst h
 focus
  refine AH rfl (fun cn=>?_) (fun cn=>?_);rotate_left;rotate_left
 . have he:H2 (.mk k n s l)=Fg (PN [] l):=by rw [Fv,AE Ab,AE Ab,AE Ab,AE Ab,AE Ab,AU Ab]
   rw [he];clear he
   refine cS (C1 Pf (C1 (Pl f) (C1 Pz (C1 Mv (cT ?_)))))
   refine Ar ?_;refine AJ (ι:=Nat) (fun i=>[(1,.pointer (some ⟨b1,0,none⟩)),(98,.slice a l.length c),(99,.int .i64 l.length),(100,.int .i64 i)])
    (fun i w'=>i<=l.length/\Blk w' b1 [.int .u8 k,.int .i64 n,str s,.slice a l.length c]/\rowSits (· < w.heap.size) w' l a/\Ext w w'/\PN [] l=PN (l.take i) (l.drop i))
    (fun i=>l.length-i) 0 sB ⟨bI _,f,L,X,Bd⟩ ?_
   clear f L X z7;rintro i v1 ⟨hi,f,L,X,hd⟩;have en:=f.lt;have eo:=X.size
   by_cases a8:i<l.length
   . obtain ⟨kb,ko,rfl,kS,E⟩:=Ba L (by intro e;subst e;simp at a8);obtain ⟨xa,xc,F,N⟩:=E i l[i] (aY a8);rw [cW a8,PN] at hd;have co:l.take i++[l[i]]=l.take (i+1):=(bE a8).symm
     have cp:(l.take i).length=i:=by simp;omega
     have hm:(i:Int)=(i:Int):=rfl;have ao:=JB l i _ L;have HC:=bA (PM (l.take i) Ab l[i]);rw [cp] at HC;clear E;rw [co] at hd
     generalize l[i]=x at *
     generalize (l.take i).any (fun t=>decide (t.name=x.name))=q at *
     focus
      refine cS (C1 V3 (cT (Aj (S1 (As (Ai (Aj (Ar (cS (C1 Mv (C1 Pi ?_)))))))))));refine C1 (Uz F) ?_;refine eA [_,_,_,_] ?_;intro ep eq b2 b3 er es;revert X f L ao F N;refine eE b3 ?_;intro X f L ao F N;clear b3;refine C1 Pa ?_;refine eS [_,_,_,_] b2 ?_;intro et a3 bq d6;clear b2;revert X f L ao F N;refine eF bq ?_;intro X f L ao F N;clear bq;refine cN (C1 Pf (C1 (Pl f) (C1 Mv ?_)));refine C1 (Jw Ac rfl rfl rfl rfl hm Ab) ?_;refine C1 (EW rfl) ?_;refine cC rfl (HC.out _ _ _ _ _ _ _ ao Ag) ?_;rintro _ d7 ⟨⟨⟩,a4⟩;have d8:=a4.size;revert a3 X f L ao F N;refine eE a4 ?_;intro a3 X f L ao F N;clear a4;refine cT ?_;refine CV rfl (fun b4=>?_) (fun b4=>?_);refine cS (C1 Pf (C1 (Pl a3) (C1 Pa (C1 Pa (cT (BD (AV (AL (AL (AV (AV ?_)))))))))));refine AL (CC rfl rfl rfl ?_);rotate_left;refine As (Ae (Ai (Ad (C1 V7 (C1 Mv (Ah ?_))))));rotate_left
     . rw [AU Ag] at hd
       exact ⟨by rw [hd];rfl,X⟩
     . rw [AE (by simp [*])] at hd
       exact Aw (i+1) sB ⟨Ab,f,L,X,hd⟩ Ab
   . obtain rfl:i=l.length:=by omega
     rw [List.drop_length,PN] at hd;rw [hd]
     refine cS (C1 V3 (cT (Aj (C9 (CB (AG (AG (A8 (Ae (Ai (cS ?_)))))))))));refine C1 Pa (C1 Pa (cT (BD (CC rfl rfl rfl ?_))))
     exact ⟨rfl,X⟩
 focus
  refine cS (C1 V1 (C1 Pa (cT ?_)));refine AH rfl (fun cq=>?_) (fun cq=>?_);rotate_left;rotate_left
 . obtain ⟨x,y,z,u,rfl,hx,hu⟩:=KK (HT.out Ab Ab) Ab;obtain ⟨kb,ko,rfl,kS,E⟩:=Ba L Bd;obtain ⟨xa,xc,F,N⟩:=E 0 x rfl;obtain ⟨ua,uc,ru,su⟩:=E 3 u rfl
   have he:H2 (.mk k n s [x,y,z,u])=if (u.const.2 && !x.const.2)=true then ([],10) else ([],0):=by rw [Fv,AE Ab,AE Ab,AE Ab,AE Ab,AE Ab,AE Ab,AU Ab];rfl
   have HX:=bA (I4 x (by have:=HZ.out x Bd;omega) (HF.out x Bd));have HU:=bA (I4 u (by have:=HZ.out u Bd;omega) (HF.out u Bd));rw [he];clear L E he
   generalize x.const.2=q at *
   generalize u.const.2=p at *
   replace f:Blk u4 b1 [.int .u8 k,.int .i64 n,str s,.slice (some ⟨kb,ko,none⟩) 4 c]:=f
   focus
    refine cS (C1 Pf (C1 (Pl f) (C1 Pi (C1 (Uz ru) (cC rfl (HU.out _ _ _ _ su) ?_)))));rintro _ eu ⟨⟨⟩,bt⟩;have ew:=bt.size;revert X F N ru su f;refine eE bt ?_;intro X F N ru su f;clear bt;refine C1 Mv ?_;refine GR rfl rfl rfl (fun cr=>?_) (fun cr=>?_);refine A2 rfl rfl rfl (CI Ag) ?_;refine C1 Pf ?_;refine A2 rfl rfl rfl (CI Ag) ?_;refine C1 (Pl f) ?_;refine A2 rfl rfl rfl (CI Ag) ?_;refine C1 Pi ?_;refine A2 rfl rfl rfl (CI Ag) ?_;refine B6 [_,_,_,_] Ac rfl rfl rfl F rfl rfl rfl ?_;refine A2 rfl rfl rfl (CI Ag) ?_;refine cC rfl (HX.out _ _ _ _ N) ?_;rintro _ ex ⟨⟨⟩,bu⟩;have ey:=bu.size;revert X F N ru su f;refine eE bu ?_;intro X F N ru su f;clear bu;refine A2 rfl rfl rfl (CI Ag) ?_;refine C1 Pt ?_;refine C1 (Bc rfl rfl Ag) ?_;refine cT ?_;refine Hp rfl (fun ct=>?_) (fun ct=>?_);refine cS (C1 Pa (C1 Pa (cT (BD (AV (AL (CC rfl rfl rfl ?_)))))));rotate_left;refine As (Ae (Ai (cS (C1 Pa (C1 Pa (cT (BD (CC rfl rfl rfl ?_))))))));rotate_left;refine AP rfl rfl rfl (D7 Ag) rfl ?_;refine AP rfl rfl rfl (D7 Ag) rfl ?_;refine AP rfl rfl rfl (D7 Ag) rfl ?_;refine AP rfl rfl rfl (D7 Ag) rfl ?_;refine AP rfl rfl rfl (D7 Ag) rfl ?_
    refine AP rfl rfl rfl (D7 Ag) rfl ?_;refine C1 (By rfl rfl Ag) ?_;refine cT (Da rfl (As (Ae (Ai (cS (C1 Pa (C1 Pa (cT (BD (CC rfl rfl rfl ?_))))))))));rotate_left
   all_goals exact ⟨by simp [*],X⟩
 focus
  refine cS (C1 V1 (C1 Pa (cT ?_)));refine AH rfl (fun cu=>?_) (fun cu=>?_);rotate_left;refine As (Ae (Ai (cS (C1 Pa (C1 Pa (cT (BD (CC rfl rfl rfl ?_))))))));rotate_left
 . obtain ⟨x,y,z,u,rfl,hx,hu⟩:=KK (HT.out Ab Ab) Ab;obtain ⟨kb,ko,rfl,kS,E⟩:=Ba L Bd;obtain ⟨xa,xc,F,N⟩:=E 0 x rfl
   have he:H2 (.mk k n s [x,y,z,u])=if x.const.2=true then ([],10) else ([],0):=by rw [Fv,AE Ab,AE Ab,AE Ab,AE Ab,AE Ab,AE Ab,AE Ab,AU Ab];rfl
   have HX:=bA (I4 x (by have:=HZ.out x Bd;omega) (HF.out x Bd));rw [he];clear L E he
   generalize x.const.2=q at *
   replace f:Blk u4 b1 [.int .u8 k,.int .i64 n,str s,.slice (some ⟨kb,ko,none⟩) 4 c]:=f
   focus
    refine cS (C1 Pf (C1 (Pl f) (C1 Pi (B6 [_,_,_,_] Ac rfl rfl rfl F rfl rfl rfl (cC rfl (HX.out _ _ _ _ N) ?_)))));rintro _ ez ⟨⟨⟩,bv⟩;have e0:=bv.size;revert X F N f;refine eE bv ?_;intro X F N f;clear bv;refine cT ?_;refine CV rfl (fun cv=>?_) (fun cv=>?_);refine cS (C1 Pa (C1 Pa (cT (BD (AV (AL (CC rfl rfl rfl ?_)))))));rotate_left;refine As (Ae (Ai (cS (C1 Pa (C1 Pa (cT (BD (CC rfl rfl rfl ?_))))))));rotate_left
   all_goals exact ⟨by simp [*],X⟩
 . have he:H2 (.mk k n s l)=([],0):=by rw [Fv,AE Ab,AE Ab,AE Ab,AE Ab,AE Ab,AE Ab,AE Ab,AE Ab]
   rw [he]
   exact ⟨rfl,X⟩
def rejShape:Shape Int where
 sz:=4
 rep _ _ x cs:= ∃(p:Int) (pa:oA) (pn pc:Nat) (s:lB),cs=[.int .i64 p,.slice pa pn pc,.int .i64 x,str s]
 len h:=by obtain ⟨_,_,_,_,_,rfl⟩:=h;rfl
 one h:=by obtain ⟨_,_,_,_,_,rfl⟩:=h;rfl
 mono h _ _:=h
 lt h:=h
def CG (l:List Nd):List Int:=(l.map fun m=>(H2 m).2).filter (fun e=>decide (e≠0))
def PQ (l:List Nd) (x:Nd):CG (l++[x])=if (H2 x).2=0 then CG l else CG l++[(H2 x).2]:=by
 unfold CG;rw [List.map_append,List.filter_append];by_cases h:(H2 x).2=0
 . rw [AU h];simp [h]
 . rw [AE h];simp [h]
def G8 (l:List Nd):(CG l).length<=l.length:=by
 unfold CG;exact cD (List.length_filter_le _ _) Bd
mutual
def H4 : ∀t:Nd,t.walk.length=t.size
 | .mk k n s l=>by simp only [Nd.walk,dL,aV,KL l];omega
def KL : ∀l:List Nd,(B9 l).length=Am l
 | []=>rfl
 | t::r=>by simp only [B9,Am,aU,H4 t,KL r]
end
def ChkR (xs:List Int) (w:wD):Ending->wD->Prop:=fun e w'=> ∃a c,e = .returned (.slice a xs.length c)/\OwnQ rejShape w' (fun _=>False) w.heap.size 207 (.slice a xs.length c) xs/\Ext w w'/\(xs=[]->a=none/\c=0)
def ChkR.ret {xs:List Int} {w:wD} {e:Ending} {w':wD} (h:ChkR xs w e w') : ∃v,e = .returned v:=by
 obtain ⟨_,_,h,-⟩:=h;exact ⟨_,h⟩
def So (p:Int) (t:Nd) (hz:t.size<=1000000) (N : ∀x∈t.walk,x.good/\x.wf/\x.size<=1000000) (S:nP) (a:oA) (c:Nat) (w:wD) (hs:t.sits S w a) :
 Calls prog 94 #[.int .i64 p,t.val a c] w (ChkR (CG t.walk) w):=by
 have HG:=bA N;clear N;have X:=dI w;refine Nk (args:=[_,_]) func94 ntmps94 rfl rfl ?_;refine cS (eB [_] ?_);intro b1 w2 h4 x5 p6 z7;revert hs X;refine eE x5 ?_;intro hs X;refine eB [_,_,_,_] ?_;intro b8 w9 aa av bf bg;revert h4 hs X;refine eE av ?_;intro h4 hs X;refine eK ?_;refine eA [_] ?_;intro al aw af ax bh z22;revert aa h4 hs X;refine eE ax ?_;intro aa h4 hs X;refine eK ?_;refine eQ rfl (UW _ hz _ _ _ _ Ag) ?_;rintro _ ab ⟨a5,⟨⟨⟩,⟨an,ay⟩⟩⟩;revert af aa h4 hs X;refine eY ay ?_;intro bi af aa h4 hs X;refine cT ?_;refine Ar ?_;refine PK rfl rfl rfl Bl an (fun _ _ _ _ h=>Ya h) (fun k F=>F.2)
  (fun A xs W=> ∃V Y,Blk W al [.slice V (CG xs).length Y]/\OwnQ rejShape W (fun _=>False) w.heap.size 207 (.slice V (CG xs).length Y) (CG xs)/\(∀g,(cP V (CG xs).length Y).ownBlock=some g -> ¬A g/\ab.heap.size<=g)/\Blk W b1 [.int .i64 p]/\Ext w W/\(CG xs=[]->V=none/\Y=0))
  (fun _ _ _=>False) ?_ (fun _ _ _ _ _ h=>h.elim) ⟨none,0,af,OwnQ.nil,fun g N=>by simp [cV] at N,h4,X,fun _=>⟨rfl,rfl⟩⟩ ?_ ?_ (fun _ _ _ _ _ h=>h.elim)
 . rintro A A' xs W W' ⟨V,Y,h1,h2,h3,h4,x,h5⟩ hf hA-az;exact ⟨V,Y,h1.fr hf (fun e=>by have:=hA _ e;omega),h2.fr hf (fun k F=>⟨id,fun e=>(h3 k e).1 F⟩),fun g N=>⟨fun e=>(h3 g N).1 (az g (h2.lt N) e),(h3 g N).2⟩,h4.fr hf (fun e=>by have:=hA _ e;omega),eX x hf (fun k F=>by have:=hA _ F;omega),h5⟩
 . rintro r A pre x u v W hA ao ⟨V,Y,U,Z,j3,O,M,j5⟩ ⟨pa,pn,pc,xa,xc,e,sx,a6⟩ ac;simp only [cK,and_true] at e;obtain ⟨rfl,rfl⟩:=e;clear an af aa h4 hs X;have bj:=hA _ ao;obtain ⟨g1,g2,g3⟩:=HG.out x (by obtain ⟨q,hq⟩:=ac;rw [<-hq];simp);have a7:(CG pre).length<=1000000:=by
    have h1:=G8 pre;have h2:=ac.length_le;rw [H4] at h2;simp only [aU,aV,aX] at h2;omega
   have E : ∀g,(cP V (CG pre).length Y).ownBlock=some g -> ¬A g/\ab.heap.size<=g/\g<W.heap.size:=fun g N=>⟨(j3 g N).1,(j3 g N).2,Z.lt N⟩
   have am:=PQ pre x;have HR:=bA (U3 x g3 g2 g1);have X1:=dI W;clear j3 ac g1 g2 g3;refine FO (Cp rfl (CF Kf) (C1 Pa (Ah (EK (Cp rfl Kf (Gn [_,_,_,_] CM rfl rfl ?_))))));intro bk bl a0;refine eI [_,_,_,_] a0 ?_;intro bm f a1 bn bo;revert U Z O M sx X1;refine eE a1 ?_;intro U Z O M sx X1;refine Ah ?_;refine Nm (Keeps.of_ext X1) fun W2 f2=>?_
   have ap : ∀k,k=ab.heap.size+1 -> ¬False/\(cP V (CG pre).length Y).ownBlock≠some k:=fun k e=>⟨id,fun h=>(E k h).1 (e▸ao)⟩
   revert f U;refine eF f2 ?_;intro f U;replace Z:=Z.fr f2 ap;replace O:=O.fr f2 Ab;replace M:=eX M f2 (fun k F=>by omega);replace sx:=sx.fr f2 (fun b hb e=>by omega);have bp:=f2.size;have aq : ∀k,A k->ab.heap.size<=k/\k<W2.heap.size:=fun k F=>by have:=hA k F;omega
   have HA:=bA aq;clear X1 f2 hA ap aq;generalize H2 x=ev at *;obtain ⟨en,ec⟩:=ev;dsimp only at am HR;have HN:=bA am;have X3:=eG (fun k=>k=al\/(cP V (CG pre).length Y).ownBlock=some k) W2;have hK : ∀k,A k\/(aw.heap.size<=k/\k<ab.heap.size) -> ¬(k=al\/(cP V (CG pre).length Y).ownBlock=some k):=fun k F h=>by
    rcases h with h|h
    . rcases F with F|F
      . have:=HA.out k F;omega
      . omega
    . rcases F with F|F
      . exact (E k h).1 F
      . have:=E k h;omega
   clear am;by_cases he:ec=0
   . have hN:=HN.out;rw [AU he] at hN;subst he;refine Jv (FO (Cp rfl (CF (Cl DD)) (Bm [_,_,_,_] Ac rfl rfl rfl f rfl rfl rfl (cC rfl (HR.out _ _ _ _ Ag Ab) ?_))));rintro _ bq ⟨⟨⟩,a2⟩;revert f U Z O M sx X3;refine eY a2 ?_;intro br f U Z O M sx X3;refine C1 Mv (C1 Px (C1 Px (C1 Pa (C1 Pa (Ah (EK (FO (Cp rfl (CF (Cl DD)) (C1 Mv (C1 V2 (Ah ?_)))))))))));refine EK (Zs rfl Az (Iy (Ae ?_)));exact Oj (Keeps.of_fr X3 hK) ⟨V,Y,by rw [hN];exact U,by rw [hN];exact Z,by rw [hN];exact fun g N=>⟨(E g N).1,(E g N).2.1⟩,O,M,by rw [hN];exact j5⟩
   . have hN:=HN.out;rw [AE he] at hN;refine Jv (FO (Cp rfl (CF (Cl DD)) (Bm [_,_,_,_] Ac rfl rfl rfl f rfl rfl rfl (cC rfl (HR.out _ _ _ _ Ag Ab) ?_))));rintro _ bs ⟨⟨⟩,a3⟩;revert f U Z O M sx X3;refine eY a3 ?_;intro bt f U Z O M sx X3;refine C1 Mv (C1 Px (C1 Px (C1 Pa (C1 Pa (Ah (EK (FO (Cp rfl (CF (Cl DD)) (C1 Mv (C1 V2 (Ah ?_)))))))))));refine EK (YG rfl Ag (Cp rfl (Cl DD) ?_));refine eK ?_;refine C1 (Dp [_,_,_,_] Ac CM rfl rfl rfl rfl) ?_;refine Au (Es [_,_,_,_] Ac CM rfl rfl rfl rfl rfl rfl rfl rfl rfl) rfl ?_ aFh;rintro _ bu ⟨bv,rfl,ag,bw⟩;have ah:=ag.blk;have a4:=ag.ext;have a8:=ag.pos;have a9:=ag.size;revert f U Z O M sx X3;refine eE a4 ?_;intro f U Z O M sx X3;refine DP (R:=fun _=>False) (sh:=rejShape) (z:=ec) Ac CM rfl rfl rfl rfl Bl rfl rfl rfl Ag (fun _ h=>by exact h) (eC Ag) ⟨_,_,_,_,_,rfl⟩ Ab Ab rfl ?_;rintro ad ae ba ai aj bb L;have bc:=L.size;replace ah:=dQ ah L (fun h=>by have:=E _ h;omega);replace f:=dQ f L (fun h=>by have:=E _ h;omega);replace U:=dQ U L (fun h=>by have:=E _ h;omega);replace O:=dQ O L (fun h=>by have:=E _ h;omega);replace M:=eX M L (fun k F=>by have:=E _ F;omega);clear sx;replace X3:=Fr.fr X3 L (fun k F=>bC (bF F));refine eS [_] U ?_;intro bd ar ak be;replace ai:=OwnQ.fr ai ak (fun k F=>⟨id,fun e=>by (obtain rfl:=bO (show some ad=some k from e);rcases aj with h|h;have:=E _ h;omega;omega)⟩);revert ah f O M X3;refine eF ak ?_;intro ah f O M X3;refine Ah (Ae ?_)
     refine Oj (Keeps.of_fr X3 hK) ⟨some ⟨ad,0,none⟩,ae,by rw [hN];exact ar,by rw [hN];assumption,fun g N=>?_,O,M,fun e=>by rw [hN] at e;simp at e⟩;obtain rfl:=bO (show some ad=some g from N);rcases aj with h|h
     . exact ⟨(E _ h).1,(E _ h).2.1⟩
     . exact ⟨fun hA=>by have:=HA.out _ hA;omega,Ab⟩
 . rintro A W hA ⟨V,Y,U,Z,j3,O,M,j5⟩ hm F;refine Nn (JA (Sf (LS (PI (Ax Ac rfl rfl rfl (fun wz hz=>by rw [show wz=W from hz];exact U.cell rfl)) rfl (PI (ES rfl) rfl (Sh (JA (Sg (UY F rfl rfl (fun w2 au=>?_))))))))));exact ⟨V,Y,rfl,Z.fr au (fun k e=>⟨id,fun h=>(j3 k h).1 (e▸hm)⟩),eX M au (fun k e=>by omega),j5⟩
section
variable {ts:List Tok} {n:Int}
structure Le (ts:List Tok) (σ σ':PS):Prop where
 le:σ.at_<=σ'.at_
 wf:σ'.at_<=ts.length
 err:σ.err≠0->σ'=σ
def Lt (σ σ':PS):Prop:=σ'.err=0->σ.at_<σ'.at_
def Le.refl {σ:PS} (h:σ.at_<=ts.length):Le ts σ σ:=⟨bJ _,h,fun _=>rfl⟩
def Le.trans {a b c:PS} (h:Le ts a b) (k:Le ts b c):Le ts a c:=⟨cD h.le k.le,k.wf,fun e=>by rw [k.err (by rw [h.err e];exact e),h.err e]⟩
def Le.ok {a b:PS} (h:Le ts a b) (e:b.err=0):a.err=0:=by
 rcases Int.lt_trichotomy a.err 0 with f|f|f
 . have:=h.err Ab;rw [this] at e;exact e
 . exact f
 . have:=h.err Ab;rw [this] at e;exact e
def Lt.of_lt {a b c:PS} (h:Lt a b) (k:Le ts b c):Lt a c:=fun e=>Nat.lt_of_lt_of_le (h (k.ok e)) k.le
def Lt.of_le {a b c:PS} (h:Le ts a b) (k:Lt b c):Lt a c:=fun e=>Nat.lt_of_le_of_lt h.le (k e)
def U4 {σ:PS} (h:σ.err≠0):Ap ts σ=Tok.zero:=by unfold Ap;rw [AU (bC h)]
def U5 {σ:PS} (h:σ.at_=ts.length):Ap ts σ=Tok.zero:=by unfold Ap;rw [AU (bF h)]
def B2 {σ:PS} (E:σ.at_<=ts.length) (h:(Ap ts σ).text≠[]\/(Ap ts σ).kind≠0):σ.err=0/\σ.at_<ts.length:=by
 by_cases h1:σ.err=0
 . by_cases f:σ.at_=ts.length
   . rw [U5 f] at h;simp [Tok.zero] at h
   . exact ⟨h1,Ab⟩
 . rw [U4 h1] at h;simp [Tok.zero] at h
def AN {σ:PS} {t:lB} (f:σ.at_<=ts.length) (h:B7 ts σ t=true) (E:t≠[]):σ.err=0/\σ.at_<ts.length:=by
 unfold B7 at h;have:=of_decide_eq_true h;exact B2 f (bC (by rw [this];exact E))
def AB {σ:PS} (h:σ.err=0/\σ.at_<ts.length):Le ts σ (Ao σ):=⟨Nat.le_succ _,h.2,fun e=>absurd h.1 e⟩
def next_lt {σ:PS}:Lt σ (Ao σ):=fun _=>Nat.lt_succ_self _
def BZ {σ:PS} (h:σ.at_<=ts.length) (off e:Int):Le ts σ (Bw σ off e):=by
 unfold Bw;split
 . rename_i f;exact ⟨bJ _,h,fun e=>absurd f e⟩
 . exact Le.refl h
def DQ {σ:PS} {off e:Int} (f:e≠0):(Bw σ off e).err≠0:=by
 unfold Bw;split
 . exact f
 . assumption
def Gz {σ:PS} (h:σ.at_<=ts.length):Le ts σ (CU ts n σ):=by
 unfold CU;split<;>exact BZ h _ _
def Et {σ:PS}:(CU ts n σ).err≠0:=by
 unfold CU;split<;>exact DQ Az
def JC {σ:PS}:Lt σ (CU ts n σ):=fun e=>absurd e Et
def Aq {σ:PS} {t:lB} (h:σ.at_<=ts.length) (f:t≠[]):Le ts σ (AA ts n σ t):=by
 unfold AA;split
 . rename_i E;exact AB (AN h E f)
 . exact Gz h
def DG {σ:PS} {t:lB}:Lt σ (AA ts n σ t):=by
 unfold AA;split
 . exact next_lt
 . exact JC
def GA {s:lB} (h:A9 s=true):s≠[]:=by
 intro e;subst e;simp [A9] at h
def AM {σ:PS} (h:σ.at_<=ts.length):Le ts σ (A4 ts n σ).2:=by
 unfold A4;split
 . rename_i f;exact AB (B2 h (bC (GA f)))
 . exact Gz h
def Oo {σ:PS}:Lt σ (A4 ts n σ).2:=by
 unfold A4;split
 . exact next_lt
 . exact JC
def FA {σ:PS} {a b:Int} (h:σ.at_<=ts.length):Le ts σ (B1 ts n a b σ).2:=by
 unfold B1;split
 . rename_i E;have f:=B2 h (bF (by rw [E];decide));split
   . exact AB f
   . exact (AB f).trans (BZ (AB f).wf _ _)
 . exact Gz h
def TA {σ:PS} {a b:Int}:Lt σ (B1 ts n a b σ).2:=by
 unfold B1;split
 . split
   . exact next_lt
   . exact fun e=>absurd e (DQ Az)
 . exact JC
def FP {t:lB} {op:Int} (h:IN t=some op):t≠[]/\8<=op/\op<=23/\BQ op=t:=by
 unfold IN at h;have h1:=List.find?_some h;have f:=List.mem_of_find?_eq_some h;have E:=of_decide_eq_true h1;simp only [bR,bX,or_false] at f;refine ⟨?_,Ab,Ab,E⟩;rintro rfl;rcases f with rfl|rfl|rfl|rfl|rfl|rfl|rfl|rfl|rfl|rfl|rfl|rfl|rfl|rfl|rfl|rfl<;>exact absurd E Az
def EL (k:Nat):(∀lv σ,σ.at_<=ts.length->Le ts σ (Bx ts n k lv σ).2/\(4<=k->Lt σ (Bx ts n k lv σ).2))/\(∀lv x σ,σ.at_<=ts.length->Le ts σ (BW ts n k lv x σ).2) /\
 (∀ σ,σ.at_<=ts.length->Le ts σ (Bj ts n k σ).2/\(3<=k->Lt σ (Bj ts n k σ).2))/\(∀ σ,σ.at_<=ts.length->Le ts σ (Bp ts n k σ).2/\(2<=k->Lt σ (Bp ts n k σ).2)) /\
 (∀ σ,σ.at_<=ts.length->Le ts σ (BF ts n k σ).2/\(1<=k->Lt σ (BF ts n k σ).2)):=by
 induction k with
 | zero=>
  refine ⟨fun lv σ h=>⟨?_,fun h=>by omega⟩,fun lv x σ h=>?_,fun σ h=>⟨?_,fun h=>by omega⟩,fun σ h=>⟨?_,fun h=>by omega⟩,fun σ h=>⟨?_,fun h=>by omega⟩⟩
  . rw [Bx];exact Le.refl h
  . rw [BW];exact Le.refl h
  . rw [Bj];exact Le.refl h
  . rw [Bp];exact Le.refl h
  . rw [BF];exact Le.refl h
 | succ k ih=>
  obtain ⟨M,Z,N,iP,iL⟩:=ih;refine ⟨fun lv σ h=>?_,fun lv x σ h=>?_,fun σ h=>?_,fun σ h=>?_,fun σ h=>?_⟩
  . rw [Bx];have O:=N σ h;have hc:=Z lv (Bj ts n k σ).1 (Bj ts n k σ).2 O.1.wf;exact ⟨O.1.trans hc,fun hk=>(O.2 Ab).of_lt hc⟩
  . rw [BW];split
    . exact Le.refl h
    . rename_i op U;obtain ⟨V,-⟩:=FP U;have E:=B2 h (bC V);split
      . exact Le.refl h
      . have h1:=AB E;have f:=M (B3 op+1) (Ao σ) h1.wf;exact (h1.trans f.1).trans (Z _ _ _ f.1.wf)
  . rw [Bj];split
    . rename_i F;have E:=AN h F Az;have h1:=AB E;have f:=N (Ao σ) h1.wf;exact ⟨h1.trans f.1,fun _=>next_lt.of_lt f.1⟩
    . split
      . rename_i F;have E:=AN h F Az;have h1:=AB E;have f:=N (Ao σ) h1.wf;exact ⟨h1.trans f.1,fun _=>next_lt.of_lt f.1⟩
      . exact ⟨(iP σ h).1,fun hk=>(iP σ h).2 Ab⟩
  . rw [Bp];split
    . exact ⟨FA h,fun _=>TA⟩
    . split
      . rename_i F;have E:=AN h F Az;have h1:=AB E;have f:=h1.trans (Aq (n:=n) (t:=[40]) h1.wf Az);have L:=f.trans (AM (n:=n) f.wf);have X:=L.trans (Aq (n:=n) (t:=[41]) L.wf Az);exact ⟨X,fun _=>Lt.of_le (ts:=ts) L DG⟩
      . split
        . rename_i F;have E:=AN h F Az;have h1:=AB E;have f:=h1.trans (Aq (n:=n) (t:=[40]) h1.wf Az);have L:=f.trans (AM (n:=n) f.wf);have X:=L.trans (Aq (n:=n) (t:=[41]) L.wf Az);exact ⟨X,fun _=>Lt.of_le (ts:=ts) L DG⟩
        . split
          . rename_i F;have E:=AN h F Az;have h1:=AB E;have f:=h1.trans (M 1 (Ao σ) h1.wf).1;exact ⟨f.trans (Aq f.wf Az),fun _=>Lt.of_le (ts:=ts) f DG⟩
          . exact ⟨(iL σ h).1,fun hk=>(iL σ h).2 Ab⟩
  . rw [BF];have Y:=AM (n:=n) h;split
    . rename_i F;have E:=AN Y.wf F Az;have h1:=Y.trans (AB E);have f:=h1.trans (M 1 _ h1.wf).1;exact ⟨f.trans (Aq f.wf Az),fun _=>Lt.of_le (ts:=ts) f DG⟩
    . exact ⟨Y,fun _=>Oo⟩
end
structure PC where
 pb:Nat
 B:Nat
 ts:List Tok
 n:Int
 a:oA
 cap:Nat
 r:Nat
abbrev Tok.cells (t:Tok):lV:=[.int .u8 t.kind,str t.text,.int .i64 t.pos]
abbrev Tok.val (t:Tok):Value:=.agg #[.int .u8 t.kind,str t.text,.int .i64 t.pos]
def U6 (w:wD) (b o:Nat) (t:Tok):Prop:=Row w ⟨b,o,none⟩ t.cells
def binMap:List (lB×Value):=[8,9,10,11,12,13,14,15,16,17,18,19,20,21,22,23].map fun k=>(BQ k,.int .u8 k)
abbrev PC.cells (c:PC) (σ:PS):lV:=[.slice c.a c.ts.length c.cap,.int .i64 σ.at_,.int .i64 c.n,.map (some c.r),.int .i64 σ.off,.int .i64 σ.err]
structure Errs (w:wD):Prop where
 ex : ∃te pe,w.cell? ⟨4,0,none⟩=some (.iface te pe)
def Errs.ext {w w':wD} (h:Errs w) (x:Ext w w'):Errs w':=by
 obtain ⟨f,E,h⟩:=h.ex;exact ⟨f,E,x.keep h⟩
instance {w w':wD}:LfE w w' (Errs w) (Errs w'):=⟨fun x h=>Bk.Errs.ext h x⟩
def Errs.fr {S:nP} {w w':wD} (h:Errs w) (x:Fr S w w') (f : ¬S 4):Errs w':=by
 obtain ⟨E,F,h⟩:=h.ex;exact ⟨E,F,x.keep f h⟩
instance {S:nP} {w w':wD}:LfF S w w' (Errs w) (¬S 4) (Errs w'):=⟨fun x s h=>Bk.Errs.fr h x s⟩
structure PP (c:PC) (σ:PS) (w:wD):Prop where
 blk:Blk w c.pb (c.cells σ)
 toks:Arr (fun b=>b<c.B/\b≠c.pb) 3 U6 w c.ts c.a
 map:MapIs w c.r binMap
 pbB:c.pb<c.B
 rB:c.r<c.B
 rne:c.r≠c.pb
 B:c.B<=w.heap.size
 at_:σ.at_<=c.ts.length
 len:c.ts.length<=1000000
 tok : ∀t∈c.ts,t.text.length<=1000000
 num : ∀t∈c.ts,t.kind=2->t.text≠[] /\ ∀x∈t.text,Cw x=true
 errs:Errs w
 gl:4<c.pb
def PP.ext {c:PC} {σ:PS} {w w':wD} (h:PP c σ w) (x:Ext w w'):PP c σ w':=
 ⟨h.blk.ext x,h.toks.mono aFh (fun _ _ _ _ _ h=>Row.ext h x),h.map.ext x,h.pbB,h.rB,h.rne,cD h.B x.size,h.at_,h.len,h.tok,h.num,h.errs.ext x,h.gl⟩
instance {c:PC} {σ:PS} {w w':wD}:LfE w w' (PP c σ w) (PP c σ w'):=⟨fun x h=>Bk.PP.ext h x⟩
def PP.fr {c:PC} {σ:PS} {S:nP} {w w':wD} (h:PP c σ w) (x:Fr S w w') (f : ∀k,S k->c.B<=k):PP c σ w':=
 ⟨h.blk.fr x (fun e=>by have:=f _ e;have:=h.pbB;omega),h.toks.mono aFh (fun b _ _ _ E h=>Row.fr h x (fun e=>by have h1:=f _ e;have F:=E.1;have L:c.B<=b:=h1;omega)),h.map.fr x (fun e=>by have:=f _ e;have:=h.rB;omega),h.pbB,h.rB,h.rne,cD h.B x.size,h.at_,h.len,h.tok,h.num,h.errs.fr x (fun e=>by have:=f _ e;have:=h.gl;have:=h.pbB;omega),h.gl⟩
instance {c:PC} {σ:PS} {S:nP} {w w':wD}:LfF S w w' (PP c σ w) (∀k,S k->c.B<=k) (PP c σ w'):=⟨fun x s h=>Bk.PP.fr h x s⟩
def PP.put {c:PC} {σ σ':PS} {w w':wD} (h:PP c σ w) (p:Put w w' c.pb (c.cells σ')) (f:σ'.at_<=c.ts.length):PP c σ' w':=
 ⟨p.blk,h.toks.mono aFh (fun b _ _ _ E h=>Row.fr h p.fr (fun e=>E.2 e)),h.map.fr p.fr (fun e=>h.rne e),h.pbB,h.rB,h.rne,cD h.B p.fr.size,f,h.len,h.tok,h.num,h.errs.fr p.fr (fun e=>by have:=h.gl;have F:4=c.pb:=e;omega),h.gl⟩
section
variable {P:Program} {n:Nat} {ops:Array Oper} {Q:Exit->Act->wD->Prop} {rest:List Oper} {l:Sl} {w:wD} {tab:Tab} {ty:TypeId} {pos:String} {after:Array Edge}
def U7 {c:PC} {σ σ':PS} {x y:Operand} {t sz o:Nat} {s:Sk} {v:Value} (T:TabOk P tab) (F:AD tab t=some (s,sz)) (h:sz=1) (L:ev l x=some (.pointer (some ⟨c.pb,o,none⟩))) (M:ev l y=some v) (N:v.cells = #[v]) (h1:eL v=true) (E:PP c σ w) (O:cY (o+1) 6=true)
 (U:(c.cells σ).set o v=c.cells σ') (V:σ'.at_<=c.ts.length) (k : ∀f,PP c σ' f->Fr (· = c.pb) w f->LW P n ops Q rest l f):LW P n ops Q (⟨none,.store t x y,ty,pos,after,none⟩::rest) l w:=
 I9 T F L M (us:=[v]) N (by simp [h]) (by simp [h1]) E.blk (by simpa using O) (fun f p=>by
  have e:Bi (c.cells σ) o [v]=c.cells σ':=by simp only [Bi];exact U
  rw [e] at p;exact k f (E.put p V) p.fr)
def Ce {c:PC} {σ:PS} {x y:Operand} {t sz:Nat} {s:Sk} (T:TabOk P tab) (E:AD tab t=some (s,sz)) (f:sz=1) (F:ev l x=some (.pointer (some ⟨c.pb,1,none⟩))) (L:ev l y=some (.int .i64 ((σ.at_:Int)+1))) (M:PP c σ w) (N:σ.at_<c.ts.length)
 (k : ∀h,PP c (Ao σ) h->Fr (· = c.pb) w h->LW P n ops Q rest l h):LW P n ops Q (⟨none,.store t x y,ty,pos,after,none⟩::rest) l w:=
 U7 (σ':=Ao σ) T E f F L rfl rfl M rfl rfl N k
def TC {c:PC} {σ:PS} {x y:Operand} {t sz:Nat} {s:Sk} {v:Int} (T:TabOk P tab) (F:AD tab t=some (s,sz)) (f:sz=1) (L:ev l x=some (.pointer (some ⟨c.pb,4,none⟩))) (M:ev l y=some (.int .i64 v)) (E:PP c σ w)
 (k : ∀h,PP c ⟨σ.at_,v,σ.err⟩ h->Fr (· = c.pb) w h->LW P n ops Q rest l h):LW P n ops Q (⟨none,.store t x y,ty,pos,after,none⟩::rest) l w:=
 U7 (σ':=⟨σ.at_,v,σ.err⟩) T F f L M rfl rfl E rfl rfl E.at_ k
def TE {c:PC} {σ:PS} {x y:Operand} {t sz:Nat} {s:Sk} {v:Int} (T:TabOk P tab) (F:AD tab t=some (s,sz)) (f:sz=1) (L:ev l x=some (.pointer (some ⟨c.pb,5,none⟩))) (M:ev l y=some (.int .i64 v)) (E:PP c σ w)
 (k : ∀h,PP c ⟨σ.at_,σ.off,v⟩ h->Fr (· = c.pb) w h->LW P n ops Q rest l h):LW P n ops Q (⟨none,.store t x y,ty,pos,after,none⟩::rest) l w:=
 U7 (σ':=⟨σ.at_,σ.off,v⟩) T F f L M rfl rfl E rfl rfl E.at_ k
end
def LU {ts:List Tok} {σ:PS} (h:σ.err≠0\/σ.at_=ts.length):Ap ts σ=Tok.zero:=by unfold Ap;rw [AU h]
def Oq {ts:List Tok} {σ:PS} (h : ¬(σ.err≠0\/σ.at_=ts.length)) (f:σ.at_<ts.length):Ap ts σ=ts[σ.at_]:=by unfold Ap;rw [AE h];simp [f]
def Bg (c:PC) (σ:PS) (w:wD) (F:PP c σ w) :
 Calls prog 163 #[.pointer (some ⟨c.pb,0,none⟩)] w fun e w'=>e = .returned (Ap c.ts σ).val/\Ext w w':=by
 have a6:=F.at_;have X:=dI w;by_cases h:σ.err≠0\/σ.at_=c.ts.length
 . rw [LU h];by_cases he:σ.err=0
   . have ha:σ.at_=c.ts.length:=h.resolve_left (fun e=>e he);refine Af func163 ntmps163 rfl rfl ?_;refine cS (eA [_,_,_] ?_);intro b1 w2 h5 x6 p7 z8;revert F X;refine eE x6 ?_;intro F X;refine eK ?_;refine AC (fun E=>Ext w2 E) 15 (.pure 0 (.pure 1 (.pure 2 (.pure 3 (.pure 4 (.pure 5 (.pure 6 (.pure 7 (.pure 8 (.pure 9 (.pure 10 (.pure 11 (.pure 12 (.pure 13 (.pure 14 .tail))))))))))))))) mixed Bl (Aa (Aa An)) ?_;intro w9 ah _;have Z:(fun E=>Ext w2 E) w9:=ah;simp only at Z;have ay:=h5;have f:=F;revert h5 F X;refine eY ah ?_;intro a7 h5 F X;refine ⟨Z,?_⟩;refine eT ?_;refine Tq rfl (Ax Ac rfl rfl rfl (fun E L=>dP (dV (PP.blk f) L) rfl)) (Tq rfl V2 (Tq rfl Mv (eN rfl (BM rfl) (eN rfl (Ez rfl) (eN rfl (AS Ac rfl rfl rfl) (eN rfl (Ax Ac rfl rfl rfl (fun E L=>dP (dV (PP.blk f) L) rfl)) (eN rfl (BM rfl) (eN rfl (Ez rfl) (eN rfl (DN Ac rfl rfl rfl) (eN rfl (Ax Ac rfl rfl rfl (fun E L=>dP (dV (PP.blk f) L) rfl)) (eN rfl (C3 Ac rfl rfl) ?_)))))))))));refine AF rfl ?_;refine eK ?_;refine C1 (xB [_,_,_]) (eS [_,_,_] h5 ?_);intro a8 aq f15 a9;clear h5 F;have X:=X.fr f15 Ab;refine eK ?_;refine xC aq ?_;exact ⟨rfl,X⟩
   . refine Af func163 ntmps163 rfl rfl ?_
     focus
      refine cS (eA [_,_,_] ?_);intro ba ai N ar bb bc;revert F X;refine eE ar ?_;intro F X;refine eK ?_;refine AC (fun E=>Ext ai E) 15 (.pure 0 (.pure 1 (.pure 2 (.pure 3 (.pure 4 (.pure 5 (.pure 6 (.pure 7 (.pure 8 (.pure 9 (.pure 10 (.pure 11 (.pure 12 (.pure 13 (.pure 14 .tail))))))))))))))) mixed Bl (Aa (Aa An)) ?_;intro au aa _;have O:(fun E=>Ext ai E) au:=aa;simp only at O;have av:=N;have f:=F;revert N F X;refine eY aa ?_;intro az N F X;refine ⟨O,?_⟩;refine eT ?_;refine Tq rfl (Ax Ac rfl rfl rfl (fun E L=>dP (dV (PP.blk f) L) rfl)) (Tq rfl V2 (Tq rfl Mv (Gd rfl rfl rfl rfl (FF Ag) rfl (Gd rfl rfl rfl rfl (FF Ag) rfl (Gd rfl rfl rfl rfl (FF Ag) rfl (Gd rfl rfl rfl rfl (FF Ag) rfl (Gd rfl rfl rfl rfl (FF Ag) rfl (Gd rfl rfl rfl rfl (FF Ag) rfl (Gd rfl rfl rfl rfl (FF Ag) rfl (Gd rfl rfl rfl rfl (FF Ag) rfl (Gd rfl rfl rfl rfl (FF Ag) rfl ?_)))))))))));refine AF rfl ?_;refine eK ?_;refine C1 (xB [_,_,_]) (eS [_,_,_] N ?_);intro a0 aj ak a1;clear N F;have X:=X.fr ak Ab;refine eK ?_;refine xC aj ?_;rotate_left
     exact ⟨rfl,X⟩
 . have he:σ.err=0:=Decidable.byContradiction fun e=>h (bC e)
   have al:σ.at_<c.ts.length:=by have:σ.at_≠c.ts.length:=fun e=>h (bF e);omega
   rw [Oq h al];obtain ⟨tb,aw,bd,-,ab⟩:=F.toks.get Ab;have Y:Row w ⟨tb,aw+σ.at_*3,none⟩ c.ts[σ.at_].cells:=ab σ.at_ _ (aY al);clear ab;refine Af func163 ntmps163 rfl rfl ?_;refine cS (eA [_,_,_] ?_);intro be am M ax bf bg;revert F X Y;refine eE ax ?_;intro F X Y;refine eK ?_;refine AC (fun E=>Ext am E) 15 (.pure 0 (.pure 1 (.pure 2 (.pure 3 (.pure 4 (.pure 5 (.pure 6 (.pure 7 (.pure 8 (.pure 9 (.pure 10 (.pure 11 (.pure 12 (.pure 13 (.pure 14 .tail))))))))))))))) mixed Bl (Aa (Aa An)) ?_;intro af ac _;have U:(fun E=>Ext am E) af:=ac;simp only at U;have ag:=M;have f:=F;have an:=Y;revert M F X Y;refine eY ac ?_;intro a2 M F X Y;refine ⟨U,?_⟩;refine eT ?_;refine Tq rfl (Ax Ac rfl rfl rfl (fun E L=>dP (dV (PP.blk f) L) rfl)) (Tq rfl V2 (Tq rfl Mv (eN rfl (BM rfl) (eN rfl (Ez rfl) (eN rfl (AS Ac rfl rfl rfl) (eN rfl (Ax Ac rfl rfl rfl (fun E L=>dP (dV (PP.blk f) L) rfl)) (eN rfl (BM rfl) (eN rfl (Ez rfl) (eN rfl (DN Ac rfl rfl rfl) (eN rfl (Ax Ac rfl rfl rfl (fun E L=>dP (dV (PP.blk f) L) rfl)) (eN rfl (C3 Ac rfl rfl) ?_)))))))))));refine AF rfl ?_;refine eK ?_;refine AC (fun E=>Ext af E) 8 (.pure 0 (.pure 1 (.pure 2 (.pure 3 (.pure 4 (.pure 5 (.pure 6 (.pure 7 .tail)))))))) mixed Bl (Aa An) ?_;intro ao ad _;have V:(fun E=>Ext af E) ao:=ad;simp only at V;have ag:=M;have f:=F;have an:=Y;revert M F X Y;refine eY ad ?_;intro a3 M F X Y;refine ⟨V,?_⟩;refine eT ?_;refine Tq rfl (Ax Ac rfl rfl rfl (fun E L=>dP (dV (PP.blk f) L) rfl)) ?_;refine eT ?_;refine Tq rfl (Ax Ac rfl rfl rfl (fun E L=>dP (dV (PP.blk f) L) rfl)) ?_;refine AF rfl (C1 (Gl Ac rfl rfl rfl Ag rfl Ab Ab) (C1 (Uz Y) (eS [_,_,_] M ?_)));intro a4 ap ae a5;clear M F;have X:=X.fr ae Ab;clear Y ae;refine eK ?_;refine xC ap ?_
   exact ⟨rfl,X⟩
def FQ (c:PC) (σ:PS) (off e:Int) (w:wD) (f:PP c σ w) :
 Calls prog 162 #[.pointer (some ⟨c.pb,0,none⟩),.int .i64 off,.int .i64 e] w fun r w'=>r = .returned (.tuple #[])/\PP c (Bw σ off e) w'/\Fr (· = c.pb) w w':=by
 have X:=eG (· = c.pb) w;by_cases h:σ.err=0
 . rw [show Bw σ off e=⟨σ.at_,off,e⟩ from by simp [Bw,h]];refine Af func162 ntmps162 rfl rfl ?_;refine cS (C1 Mv (C1 Pn (C1 Pf (C1 (Pl (PP.blk f)) ?_))));refine eK ?_;refine TC Ac rfl rfl rfl rfl f ?_;rintro L M E;have z4:=E.size;clear f;have X:=X.fr E Ab;refine eK ?_;refine TE Ac rfl rfl rfl rfl Ag ?_;rintro N O F;have U:=F.size;have X:=X.fr F Ab;refine Ah (Bn rfl ?_);exact ⟨rfl,Ag,X⟩
 . rw [show Bw σ off e=σ from by simp [Bw,h]];refine Af func162 ntmps162 rfl rfl ?_;refine cS (C1 Mv (C1 Pn (C1 Pf (C1 (Pl (PP.blk f)) (C1 V1 (cT (N0 (As (Bn rfl ?_)))))))));exact ⟨rfl,f,X⟩
def D5 (c:PC) (σ:PS) (w:wD) (E:PP c σ w) :
 Calls prog 168 #[.pointer (some ⟨c.pb,0,none⟩)] w fun r w'=>r = .returned (.tuple #[])/\PP c (CU c.ts c.n σ) w'/\Fr (· = c.pb) w w':=by
 have X:=eG (· = c.pb) w;by_cases O:σ.at_<c.ts.length
 . rw [show CU c.ts c.n σ=Bw σ (c.ts[σ.at_]).pos 3 from by simp [CU,O]];obtain ⟨tb,ac,ae,-,L⟩:=E.toks.get Ab;have U:Row w ⟨tb,ac+σ.at_*3,none⟩ c.ts[σ.at_].cells:=L σ.at_ _ (aY O);clear L;refine Af func168 ntmps168 rfl rfl ?_;refine Aj (AC (fun h=>Ext w h) 9 (.pure 0 (.pure 1 (.pure 2 (.pure 3 (.pure 4 (.pure 5 (.pure 6 (.pure 7 (.pure 8 .tail))))))))) mixed Bl (Aa An) ?_);intro w1 x2 _;have Y:(fun h=>Ext w h) w1:=x2;simp only at Y;have f:=E;have M:=U;revert E X U;refine eY x2 ?_;intro z4 E X U;refine ⟨Y,?_⟩;refine eT ?_;refine Tq rfl (Ax Ac rfl rfl rfl (fun h F=>dP (dV (PP.blk f) F) rfl)) ?_;refine eT ?_;refine Tq rfl (Ax Ac rfl rfl rfl (fun h F=>dP (dV (PP.blk f) F) rfl)) (Tq rfl Pz ?_);refine AF rfl ?_;refine eK ?_;refine AC (fun h=>Ext w1 h) 12 (.pure 0 (.pure 1 (.pure 2 (.pure 3 (.pure 4 (.pure 5 (.pure 6 (.pure 7 (.pure 8 (.pure 9 (.pure 10 (.pure 11 .tail)))))))))))) mixed Bl An ?_;intro w5 x6 _;have Z:(fun h=>Ext w1 h) w5:=x6;simp only at Z;have f:=E;have M:=U;revert E X U;refine eY x6 ?_;intro z8 E X U;refine ⟨Z,?_⟩;refine eT ?_;refine Tq rfl (Ax Ac rfl rfl rfl (fun h F=>dP (dV (PP.blk f) F) rfl)) ?_;refine eT ?_;refine Tq rfl (Ax Ac rfl rfl rfl (fun h F=>dP (dV (PP.blk f) F) rfl)) (Tq rfl (Gl Ac rfl rfl rfl Ag rfl Ab Ab) (Tq rfl Pf (Tq rfl (Dr M) ?_)));refine AF rfl (cC rfl (FQ _ _ _ _ _ Ag) ?_)
   rintro _ af ⟨⟨⟩,⟨h9,V⟩⟩;have ag:=V.size;clear E;have X:=X.fr V Ab;clear U V;refine Ah (Bn rfl ?_);exact ⟨rfl,Ag,X⟩
 . rw [show CU c.ts c.n σ=Bw σ c.n 4 from by simp [CU,O]];refine Af func168 ntmps168 rfl rfl ?_;refine Aj (AC (fun h=>Ext w h) 9 (.pure 0 (.pure 1 (.pure 2 (.pure 3 (.pure 4 (.pure 5 (.pure 6 (.pure 7 (.pure 8 .tail))))))))) mixed Bl (Aa An) ?_);intro ad aa _;have N:(fun h=>Ext w h) ad:=aa;simp only at N;have f:=E;revert E X;refine eY aa ?_;intro ah E X;refine ⟨N,?_⟩;refine eT ?_;refine Tq rfl (Ax Ac rfl rfl rfl (fun h F=>dP (dV (PP.blk f) F) rfl)) ?_;refine eT ?_;refine Tq rfl (Ax Ac rfl rfl rfl (fun h F=>dP (dV (PP.blk f) F) rfl)) (Tq rfl Pz ?_);refine AF rfl (C1 V3 (cT (C9 (Ad (C1 Mv (C1 Mv (C1 Pn (C1 Pf (C1 (Pl (PP.blk E)) (cC rfl (FQ _ _ _ _ _ Ag) ?_))))))))));rintro _ ai ⟨⟨⟩,⟨aj,ab⟩⟩;have ak:=ab.size;clear E;have X:=X.fr ab Ab;refine Ah (Bn rfl ?_);exact ⟨rfl,Ag,X⟩
def JD (c:PC) (σ:PS) (t:lB) (w:wD) (f:PP c σ w) (L:t≠[]) :
 Calls prog 209 #[.pointer (some ⟨c.pb,0,none⟩),str t] w fun r w'=>r = .returned (.bool (B7 c.ts σ t))/\PP c (DZ c.ts σ t) w'/\Fr (· = c.pb) w w':=by
 have X:=eG (· = c.pb) w;have V:=f.len;by_cases h:(Ap c.ts σ).text=t
 . have h1:B7 c.ts σ t=true:=by simp [B7,h]
   rw [show DZ c.ts σ t=Ao σ from by simp [DZ,h1],h1];obtain ⟨Y,M⟩:=AN f.at_ h1 L;refine Af func209 ntmps209 rfl rfl ?_;refine eK ?_;refine cC rfl (Bg _ _ _ Ag) ?_;rintro _ Z ⟨⟨⟩,N⟩;revert f X;refine eY N ?_;intro z3 f X;refine C1 (AR Ac rfl rfl rfl rfl rfl rfl) (C1 Mv (C1 V9 (cT (Fa rfl (not_not_intro Ag) (As (Ai (cS (C1 Mv (C1 Pn (C1 Pf (C1 (Pl (PP.blk f)) ?_)))))))))));refine eK ?_;refine Ce Ac rfl rfl rfl rfl Ag M ?_;rintro w4 h5 F;have z7:=F.size;clear f;have X:=X.fr F Ab;refine eK ?_;refine xR ?_;exact ⟨rfl,Ag,X⟩
 . have h1:B7 c.ts σ t=false:=by simp [B7,h]
   rw [show DZ c.ts σ t=σ from by simp [DZ,h1],h1];refine Af func209 ntmps209 rfl rfl ?_;refine eK ?_;refine cC rfl (Bg _ _ _ Ag) ?_;rintro _ O ⟨⟨⟩,E⟩;revert f X;refine eY E ?_;intro U f X;refine C1 (AR Ac rfl rfl rfl rfl rfl rfl) ?_;refine eK ?_;refine xR ?_;exact ⟨rfl,Ag,X⟩
def Cf (c:PC) (σ:PS) (t:lB) (w:wD) (f:PP c σ w) (E:t≠[]) (h:B7 c.ts σ t=true) :
 Calls prog 209 #[.pointer (some ⟨c.pb,0,none⟩),str t] w fun r w'=>r = .returned (.bool true)/\PP c (Ao σ) w'/\Fr (· = c.pb) w w':=by
 have:=JD c σ t w f E;rw [show DZ c.ts σ t=Ao σ from by simp [DZ,h],h] at this;exact this
def BS (c:PC) (σ:PS) (t:lB) (w:wD) (f:PP c σ w) (E:t≠[]) (h:B7 c.ts σ t=false) :
 Calls prog 209 #[.pointer (some ⟨c.pb,0,none⟩),str t] w fun r w'=>r = .returned (.bool false)/\PP c σ w'/\Fr (· = c.pb) w w':=by
 have:=JD c σ t w f E;rw [show DZ c.ts σ t=σ from by simp [DZ,h],h] at this;exact this
def BU (c:PC) (σ:PS) (t:lB) (w:wD) (L:PP c σ w) (Y:t≠[]) :
 Calls prog 166 #[.pointer (some ⟨c.pb,0,none⟩),str t] w fun r w'=>r = .returned (.tuple #[])/\PP c (AA c.ts c.n σ t) w'/\Fr (· = c.pb) w w':=by
 have X:=eG (· = c.pb) w;cases h:B7 c.ts σ t
 . have E:DZ c.ts σ t=σ:=by simp [DZ,h]
   have F:AA c.ts c.n σ t=CU c.ts c.n σ:=by simp [AA,h]
   rw [F];refine Af func166 ntmps166 rfl rfl ?_;refine eK ?_;refine cC rfl (JD _ _ _ _ Ag Ag) ?_;rintro _ Z ⟨⟨⟩,⟨h1,M⟩⟩;have z4:=M.size;clear L;have X:=X.fr M Ab;refine C1 Pt (cT (XV rfl Ag ?_));refine eK ?_;refine cC rfl (D5 _ _ _ Ag) ?_;rintro _ w7 ⟨⟨⟩,⟨h5,N⟩⟩;have z8:=N.size;have X:=X.fr N Ab;refine Ah (Bn rfl ?_);exact ⟨rfl,by rw [E] at *;assumption,X⟩
 . have E:DZ c.ts σ t=Ao σ:=by simp [DZ,h]
   have F:AA c.ts c.n σ t=Ao σ:=by simp [AA,h]
   rw [F];refine Af func166 ntmps166 rfl rfl ?_;refine eK ?_;refine cC rfl (JD _ _ _ _ Ag Ag) ?_;rintro _ O ⟨⟨⟩,⟨U,f⟩⟩;have V:=f.size;clear L;have X:=X.fr f Ab;refine C1 Pt (cT (XW rfl Ag (As (Bn rfl ?_))));exact ⟨rfl,by rw [E] at *;assumption,X⟩
def PR {c:PC} {σ:PS} {w:wD} (E:PP c σ w):(Ap c.ts σ).text.length<=1000000:=by
 by_cases h:σ.err≠0\/σ.at_=c.ts.length
 . rw [LU h];simp [Tok.zero]
 . have f:σ.at_<c.ts.length:=by have:σ.at_≠c.ts.length:=fun e=>h (bF e);have:=E.at_;omega
   rw [Oq h f];exact E.tok _ (bD f)
def TreeR (c:PC) (w:wD) (r:Nd×PS):Ending->wD->Prop:=fun e w'=> ∃a k,e = .returned (r.1.val a k)/\r.1.sits (fun b=>w.heap.size<=b/\b<w'.heap.size) w' a/\PP c r.2 w'/\Fr (· = c.pb) w w'
def AX {c:PC} {w w':wD} {r:Nd×PS} {a:oA} {k:Nat} (f:r.1.sits (w.heap.size <= ·) w' a) (h:PP c r.2 w') (X:Fr (· = c.pb) w w'):TreeR c w r (.returned (r.1.val a k)) w':=
 ⟨a,k,rfl,Gs _ _ f,h,X⟩
def TreeR.ret {c:PC} {w:wD} {r:Nd×PS} {e:Ending} {w':wD} (h:TreeR c w r e w') : ∃v,e = .returned v:=by
 obtain ⟨_,_,h,-⟩:=h;exact ⟨_,h⟩
def EY (c:PC) (σ:PS) (w:wD) (f:PP c σ w) :
 Calls prog 210 #[.pointer (some ⟨c.pb,0,none⟩)] w fun r w'=>r = .returned (str (A4 c.ts c.n σ).1)/\PP c (A4 c.ts c.n σ).2 w'/\Fr (· = c.pb) w w':=by
 have X:=eG (· = c.pb) w;have hl:=f.len;have ag:=PR f;have ah:=f.pbB;have hB:=f.B;cases h:A9 (Ap c.ts σ).text
 . rw [show A4 c.ts c.n σ=([],CU c.ts c.n σ) from by simp [A4,h]];refine Af func210 ntmps210 rfl rfl ?_;refine eK ?_;refine cC rfl (Bg _ _ _ Ag) ?_;rintro _ w2 ⟨⟨⟩,x1⟩;revert f X;refine eY x1 ?_;intro z3 f X;refine xA [_,_,_] ?_;intro b4 w5 n6;refine eI [_,_,_] n6 ?_;intro w7 N x9 ai aj;revert f X;refine eE x9 ?_;intro f X;refine eK ?_;refine cC rfl (G0 _ _ Ab) ?_;rintro _ ak ⟨⟨⟩,O⟩;revert N f X;refine eY O ?_;intro al N f X;refine C1 Pt (cT (XV rfl Ag ?_));refine eK ?_;refine cC rfl (D5 _ _ _ Ag) ?_;rintro _ am ⟨⟨⟩,⟨an,L⟩⟩;have ao:=L.size;have N:=N.fr L Ab;clear f;have X:=X.fr L Ab;refine eK ?_;refine xR ?_;exact ⟨rfl,Ag,X⟩
 . rw [show A4 c.ts c.n σ=((Ap c.ts σ).text,Ao σ) from by simp [A4,h]];obtain ⟨h2,h3⟩:=B2 f.at_ (bC (GA h));refine Af func210 ntmps210 rfl rfl ?_;refine eK ?_;refine cC rfl (Bg _ _ _ Ag) ?_;rintro _ ap ⟨⟨⟩,U⟩;revert f X;refine eY U ?_;intro aq f X;refine xA [_,_,_] ?_;intro ar au V;refine eI [_,_,_] V ?_;intro av F Y Z aa;revert f X;refine eE Y ?_;intro f X;refine eK ?_;refine cC rfl (G0 _ _ Ab) ?_;rintro _ ab ⟨⟨⟩,M⟩;revert F f X;refine eY M ?_;intro ac F f X;refine C1 Pt (cT (XW rfl Ag (As (Ai (cS (C1 Mv (C1 Pn (C1 Pf (C1 (Pl (PP.blk f)) ?_)))))))));refine eK ?_;refine Ce Ac rfl rfl rfl rfl Ag h3 ?_;rintro ad ae E;have af:=E.size;have F:=F.fr E Ab;clear f;have X:=X.fr E Ab;refine eK ?_;refine xR ?_;exact ⟨rfl,Ag,X⟩
def G9 (c:PC) (σ:PS) (w:wD) (h:PP c σ w) :
 Calls prog 275 #[.pointer (some ⟨c.pb,0,none⟩)] w (TreeR c w (DB c.ts c.n σ)):=by
 have X:=eG (· = c.pb) w;have M:=h.pbB;have Z:=h.B;refine Af func275 ntmps275 rfl rfl ?_;refine cS (eA [_,_,_,_] ?_);intro b1 w2 E N p7 z8;revert h X;refine eE N ?_;intro h X;refine eK ?_;refine cC rfl (EY _ _ _ Ag) ?_;rintro _ O ⟨⟨⟩,⟨L,f⟩⟩;have U:=f.size;have E:=E.fr f Ab;clear h;have X:=X.fr f Ab;refine C1 (xB [_,_,_,_]) (eS [_,_,_,_] E ?_);intro V F f15 Y;revert L X;refine eF f15 ?_;intro L X;refine eK ?_;refine xC F ?_;exact AX CX Ag X
def KM (c:PC) (σ:PS) (kind:Int) (w:wD) (L:PP c σ w) :
 Calls prog 285 #[.pointer (some ⟨c.pb,0,none⟩),.int .u8 kind] w (TreeR c w (.mk kind 0 (A4 c.ts c.n (AA c.ts c.n σ [40])).1 [],AA c.ts c.n (A4 c.ts c.n (AA c.ts c.n σ [40])).2 [41])):=by
 have X:=eG (· = c.pb) w;have aa:=L.pbB;have hB:=L.B;refine Af func285 ntmps285 rfl rfl ?_;refine cS (eA [_,_,_,_] ?_);intro b1 w2 f x6 p7 z8;revert L X;refine eE x6 ?_;intro L X;refine eK ?_;refine cC rfl (BU _ _ _ _ Ag Az) ?_;rintro _ ab ⟨⟨⟩,⟨h9,E⟩⟩;have ac:=E.size;have f:=f.fr E Ab;clear L;have X:=X.fr E Ab;refine eK ?_;refine cC rfl (EY _ _ _ Ag) ?_;rintro _ ad ⟨⟨⟩,⟨M,N⟩⟩;have ae:=N.size;revert f X;refine eF N ?_;intro f X;refine C1 (xB [_,_,_,_]) (xA [_,_,_,_] ?_);intro af ag U;refine eI [_,_,_,_] U ?_;intro ah h V ai aj;revert M f X;refine eE V ?_;intro M f X;refine eK ?_;refine cC rfl (BU _ _ _ _ Ag Az) ?_;rintro _ ak ⟨⟨⟩,⟨O,F⟩⟩;have al:=F.size;have h:=h.fr F Ab;revert f X;refine eF F ?_;intro f X;refine eK ?_;refine eS [_,_,_,_] f ?_;intro am Y Z an;revert O h X;refine eF Z ?_;intro O h X;refine eK ?_;refine xC Y ?_;exact AX CX Ag X
def Dw (a:Nat) (s:lB):Nat:=s.foldl (fun a c=>a*10+(c.toNat-48)) a
def MQ (s:lB) : ∀a,a<=Dw a s:=by
 induction s with
 | nil=>intro a;exact bJ _
 | cons c r f=>intro a;have:=f (a*10+(c.toNat-48));simp only [Dw,List.foldl_cons] at this ⊢;omega
def GB : ∀(s:lB) (a:Nat),a<18446744073709551616->(∀c∈s,Cw c=true) ->
 (Lib.parseUint10 a s = .ok (Dw a s)/\Dw a s<18446744073709551616)\/(Lib.parseUint10 a s = .range/\18446744073709551616<=Dw a s)
 | [],a,f,_=>bC ⟨rfl,f⟩
 | c::r,a,f,h=>by
  have E:=h c List.mem_cons_self;simp only [Cw,bB,decide_eq_true_eq] at E;have L : ∀x∈r,Cw x=true:=fun x M=>h x (List.mem_cons_of_mem _ M)
  have N:=MQ r (a*10+(c.toNat-48));have O:Dw a (c::r)=Dw (a*10+(c.toNat-48)) r:=rfl;rw [O];simp only [Lib.parseUint10,E,and_self,if_true];by_cases h1:1844674407370955162<=a
  . rw [AU h1];exact bF ⟨rfl,Ab⟩
  . rw [AE h1];by_cases F:18446744073709551616<=a*10+(c.toNat-48)
    . rw [AU F];exact bF ⟨rfl,Ab⟩
    . rw [AE F];exact GB r _ Ab L
def KN (s:lB) (L:s≠[]) (F : ∀c∈s,Cw c=true) :
 Lib.atoiAll s=if (Bs s:Int)<=9223372036854775807 then .ok (Bs s) else .range:=by
 cases s with
 | nil=>exact absurd rfl L
 | cons c r=>
  have M:=F c List.mem_cons_self;simp only [Cw,bB,decide_eq_true_eq] at M;have f : ¬c.toNat=45:=by omega
  have E : ¬c.toNat=43:=by omega
  have e:Bs (c::r)=Dw 0 (c::r):=rfl;rw [e];have N:Lib.parseMag (c::r)=Lib.parseUint10 0 (c::r):=by simp [Lib.parseMag]
  unfold Lib.atoiAll;simp only [f,E,or_self,if_false,N,not_false_eq_true,true_and,false_and];rcases GB (c::r) 0 Ab F with ⟨h1,O⟩|⟨h1,O⟩
  . rw [h1];simp only;by_cases h:9223372036854775808<=Dw 0 (c::r)
    . rw [AU h,AE Ab]
    . rw [AE h,AU Ab]
  . rw [h1,AE Ab]
def Ext.bytes (w:wD) (e:TypeId) (s:ByteArray):Ext w (Lib.bytesWorld w e s):=Lib.bytesWorld_below w e s
def Os (s:lB) (w:wD) (E:s≠[]) (F : ∀c∈s,Cw c=true) (L:s.length<=1000000) (h:(Bs s:Int)<=9223372036854775807) :
 Calls prog 156 #[str s] w fun e w'=>e = .returned (.tuple #[.int .i64 (Bs s),.nilIface])/\Ext w w':=by
 have f:=KN s E F;rw [AU h] at f;refine (Tryz.strconv_Atoi_ok ⟨s.toArray⟩ (by rw [Ee];omega) (Bs s) (by simpa using f) w).mono ?_;rintro e w' ⟨rfl,rfl|⟨t,rfl⟩⟩
 . exact ⟨rfl,dI _⟩
 . exact ⟨rfl,Ext.bytes _ _ _⟩
def Rg (s:lB) (w:wD) (F:s≠[]) (L : ∀c∈s,Cw c=true) (Y:s.length<=1000000) (h : ¬(Bs s:Int)<=9223372036854775807) (O:Errs w) :
 Calls prog 156 #[str s] w fun e w'=> ∃f E,e = .returned (.tuple #[.int .i64 9223372036854775807,.iface f E])/\Ext w w':=by
 have M:=KN s F L;rw [AE h] at M;obtain ⟨f,E,U⟩:=O.ex;refine (Tryz.strconv_Atoi_range ⟨s.toArray⟩ (by rw [Ee];omega) (by simpa using M) (.iface f E) w U (bF ⟨f,E,rfl⟩)).mono ?_;rintro e w' ⟨N,rfl,-,-,V⟩;have:Lib.atoiSat (⟨s.toArray⟩:ByteArray).data.toList=9223372036854775807:=by
  cases s with
  | nil=>exact absurd rfl F
  | cons c r=>
   have X:=L c List.mem_cons_self;simp only [Cw,bB,decide_eq_true_eq] at X;simp [Lib.atoiSat];omega
 rw [this];exact ⟨_,_,rfl,V⟩
def U9 {c:PC} {σ:PS} {w:wD} (F:PP c σ w) (h:(Ap c.ts σ).kind=2):(Ap c.ts σ).text≠[] /\ ∀x∈(Ap c.ts σ).text,Cw x=true:=by
 by_cases E:σ.err≠0\/σ.at_=c.ts.length
 . rw [LU E] at h;simp [Tok.zero] at h
 . have f:σ.at_<c.ts.length:=by have:σ.at_≠c.ts.length:=fun e=>E (bF e);have:=F.at_;omega
   rw [Oq E f] at h ⊢;exact F.num _ (bD f) h
def PT (c:PC) (σ:PS) (f F:Int) (w:wD) (E:PP c σ w) (h0 : -1<=f) :
 Calls prog 211 #[.pointer (some ⟨c.pb,0,none⟩),.int .i64 f,.int .i64 F] w fun r w'=>r = .returned (.int .i64 (B1 c.ts c.n f F σ).1)/\PP c (B1 c.ts c.n f F σ).2 w'/\Fr (· = c.pb) w w':=by
 have X:=eG (· = c.pb) w;have hl:=E.len;have Z:=PR E;have b1:=E.pbB;have hB:=E.B;by_cases hk:(Ap c.ts σ).kind=2
 . obtain ⟨h2,h3⟩:=B2 E.at_ (bF (show (Ap c.ts σ).kind≠0 by omega));obtain ⟨d1,d2⟩:=U9 E hk;by_cases hr:(Bs (Ap c.ts σ).text:Int)<=9223372036854775807
   . by_cases ah:f<=(Bs (Ap c.ts σ).text:Int)/\(Bs (Ap c.ts σ).text:Int)<=F
     . obtain ⟨r1,r2⟩:=ah;rw [show B1 c.ts c.n f F σ=((Bs (Ap c.ts σ).text:Int),Ao σ) from by simp [B1,hk,hr,r1,r2]];refine Af func211 ntmps211 rfl rfl ?_;refine eK ?_;refine cC rfl (Bg _ _ _ Ag) ?_;rintro _ w2 ⟨⟨⟩,x1⟩;revert E X;refine eY x1 ?_;intro z3 E X;refine xA [_,_,_] ?_;intro b4 w5 n6;refine eI [_,_,_] n6 ?_;intro w7 h8 x9 b2 b3;revert E X;refine eE x9 ?_;intro E X;refine cT (Aj (cS (C1 Pg (C1 (Pl h8) (C1 V2 (cT (C9 (As (Ai (cS (C1 Mv ?_)))))))))));refine C1 Pn (C1 Pf (C1 (Pl (PP.blk E)) ?_));refine eK ?_;refine Ce Ac rfl rfl rfl rfl Ag h3 ?_;rintro b5 ai ag;have b6:=ag.size;have h8:=h8.fr ag Ab;clear E;have X:=X.fr ag Ab;refine eK ?_;refine cC rfl (Os _ _ d1 d2 Z hr) ?_;rintro _ b7 ⟨⟨⟩,an⟩;revert ai h8 X;refine eY an ?_;intro b8 ai h8 X;refine eK ?_;refine C1 (Gm Ac rfl rfl) ?_;refine eK ?_;refine xR ?_;exact ⟨rfl,Ag,X⟩
     . rw [show B1 c.ts c.n f F σ=(0,Bw (Ao σ) (Ap c.ts σ).pos 2) from by simp [B1,hk,hr,ah]];by_cases r1:f<=(Bs (Ap c.ts σ).text:Int)
       . have r2:F<(Bs (Ap c.ts σ).text:Int):=by omega
         refine Af func211 ntmps211 rfl rfl ?_;refine eK ?_;refine cC rfl (Bg _ _ _ Ag) ?_;rintro _ b9 ⟨⟨⟩,ao⟩;revert E X;refine eY ao ?_;intro ca E X;refine xA [_,_,_] ?_;intro cb cc ap;refine eI [_,_,_] ap ?_;intro cd L aq a4 a5;revert E X;refine eE aq ?_;intro E X;refine cT (Aj (cS (C1 Pg (C1 (Pl L) (C1 V2 (cT (C9 (As (Ai (cS (C1 Mv ?_)))))))))));refine C1 Pn (C1 Pf (C1 (Pl (PP.blk E)) ?_));refine eK ?_;refine Ce Ac rfl rfl rfl rfl Ag h3 ?_;rintro a6 aa O;have a7:=O.size;have L:=L.fr O Ab;clear E;have X:=X.fr O Ab;refine eK ?_;refine cC rfl (Os _ _ d1 d2 Z hr) ?_;rintro _ a8 ⟨⟨⟩,aj⟩;revert aa L X;refine eY aj ?_;intro a9 aa L X;refine eK ?_;refine C1 (Gm Ac rfl rfl) ?_;refine eK ?_;refine cC rfl (FQ _ _ _ _ _ Ag) ?_;rintro _ ba ⟨⟨⟩,⟨bb,ab⟩⟩;have bc:=ab.size;revert L X;refine eF ab ?_;intro L X;refine eK ?_;refine xR ?_;exact ⟨rfl,Ag,X⟩
       . refine Af func211 ntmps211 rfl rfl ?_;refine eK ?_;refine cC rfl (Bg _ _ _ Ag) ?_;rintro _ ce ⟨⟨⟩,ar⟩;revert E X;refine eY ar ?_;intro cf E X;refine xA [_,_,_] ?_;intro cg ch au;refine eI [_,_,_] au ?_;intro ci M av bd be;revert E X;refine eE av ?_;intro E X;refine cT (Aj (cS (C1 Pg (C1 (Pl M) (C1 V2 (cT (C9 (As (Ai (cS (C1 Mv ?_)))))))))));refine C1 Pn (C1 Pf (C1 (Pl (PP.blk E)) ?_));refine eK ?_;refine Ce Ac rfl rfl rfl rfl Ag h3 ?_;rintro bf ac U;have bg:=U.size;have M:=M.fr U Ab;clear E;have X:=X.fr U Ab;refine eK ?_;refine cC rfl (Os _ _ d1 d2 Z hr) ?_;rintro _ bh ⟨⟨⟩,ak⟩;revert ac M X;refine eY ak ?_;intro bi ac M X;refine eK ?_;refine C1 (Gm Ac rfl rfl) ?_;refine eK ?_;refine cC rfl (FQ _ _ _ _ _ Ag) ?_;rintro _ bj ⟨⟨⟩,⟨bk,ad⟩⟩;have bl:=ad.size;revert M X;refine eF ad ?_;intro M X;refine eK ?_;refine xR ?_;exact ⟨rfl,Ag,X⟩
   . rw [show B1 c.ts c.n f F σ=(0,Bw (Ao σ) (Ap c.ts σ).pos 2) from by simp [B1,hk,hr]];refine Af func211 ntmps211 rfl rfl ?_;refine eK ?_;refine cC rfl (Bg _ _ _ Ag) ?_;rintro _ cj ⟨⟨⟩,aw⟩;revert E X;refine eY aw ?_;intro ck E X;refine xA [_,_,_] ?_;intro cl cm ax;refine eI [_,_,_] ax ?_;intro cn N ay bm bn;revert E X;refine eE ay ?_;intro E X;refine cT (Aj (cS (C1 Pg (C1 (Pl N) (C1 V2 (cT (C9 (As (Ai (cS (C1 Mv ?_)))))))))));refine C1 Pn (C1 Pf (C1 (Pl (PP.blk E)) ?_));refine eK ?_;refine Ce Ac rfl rfl rfl rfl Ag h3 ?_;rintro bo ae V;have bp:=V.size;have N:=N.fr V Ab;clear E;have X:=X.fr V Ab;refine eK ?_;refine Au (Bb Bl rfl (Rg _ _ d1 d2 Z hr (PP.errs Ag)) (fun _ _ ⟨_,_,h⟩=>⟨_,h.1⟩)) rfl ?_ aFh;rintro _ bq ⟨az,⟨a0,⟨⟨⟩,al⟩⟩⟩;revert ae N X;refine eY al ?_;intro br ae N X;refine eK ?_;refine C1 (OW Ac rfl rfl) ?_;refine eK ?_;refine cC rfl (FQ _ _ _ _ _ Ag) ?_;rintro _ bs ⟨⟨⟩,⟨bt,af⟩⟩;have bu:=af.size;revert N X;refine eF af ?_;intro N X;refine eK ?_;refine xR ?_;exact ⟨rfl,Ag,X⟩
 . rw [show B1 c.ts c.n f F σ=(0,CU c.ts c.n σ) from by simp [B1,hk]];refine Af func211 ntmps211 rfl rfl ?_;refine eK ?_;refine cC rfl (Bg _ _ _ Ag) ?_;rintro _ co ⟨⟨⟩,a1⟩;revert E X;refine eY a1 ?_;intro cp E X;refine xA [_,_,_] ?_;intro cq cr a2;refine eI [_,_,_] a2 ?_;intro ct am a3 bv bw;revert E X;refine eE a3 ?_;intro E X;refine eK ?_;refine cC rfl (D5 _ _ _ Ag) ?_;rintro _ bx ⟨⟨⟩,⟨bz,Y⟩⟩;have b0:=Y.size;have am:=am.fr Y Ab;clear E;have X:=X.fr Y Ab;refine eK ?_;refine xR ?_;exact ⟨rfl,Ag,X⟩
section
variable {ts:List Tok} {n:Int}
def mS (ts:List Tok) (σ:PS):Nat:=if σ.err=0 then ts.length-σ.at_ else 0
def BC {σ σ':PS} (h:Le ts σ σ'):mS ts σ'<=mS ts σ:=by
 unfold mS;by_cases f:σ'.err=0
 . have:=h.ok f;have:=h.le;rw [AU f,AU Ag];omega
 . rw [AE f];omega
def Sq {σ σ':PS} (h:Le ts σ σ') (k:Lt σ σ'):mS ts σ'+1<=mS ts σ\/mS ts σ'=0:=by
 unfold mS;by_cases f:σ'.err=0
 . have:=h.ok f;have:=k f;have:=h.wf;rw [AU f,AU Ag];omega
 . rw [AE f];exact bF rfl
def Ca {σ:PS} (h:σ.err=0/\σ.at_<ts.length):mS ts (Ao σ)+1=mS ts σ:=by
 unfold mS Ao;simp only [h.1,if_true];omega
def Rh {σ:PS} (h:σ.err=0/\σ.at_<ts.length):1<=mS ts σ:=by have:=Ca h;omega
end
def Yb (c:PC) (k:Nat):Prop:= ∀(lv:Int) (σ:PS) (w:wD),PP c σ w->4*mS c.ts σ+4<=k->1<=lv->lv<=9 ->
 Calls prog 276 #[.pointer (some ⟨c.pb,0,none⟩),.int .i64 lv] w (TreeR c w (Bx c.ts c.n k lv σ))
def Va (c:PC) (k:Nat):Prop:= ∀(σ:PS) (w:wD),PP c σ w->4*mS c.ts σ+3<=k ->
 Calls prog 281 #[.pointer (some ⟨c.pb,0,none⟩)] w (TreeR c w (Bj c.ts c.n k σ))
def PU (c:PC) (k:Nat):Prop:= ∀(σ:PS) (w:wD),PP c σ w->4*mS c.ts σ+2<=k ->
 Calls prog 284 #[.pointer (some ⟨c.pb,0,none⟩)] w (TreeR c w (Bp c.ts c.n k σ))
def Vb (c:PC) (k:Nat):Prop:= ∀(σ:PS) (w:wD),PP c σ w->4*mS c.ts σ+1<=k ->
 Calls prog 274 #[.pointer (some ⟨c.pb,0,none⟩)] w (TreeR c w (BF c.ts c.n k σ))
structure ExprsC (c:PC) (k:Nat):Prop where
 expr:Yb c k
 unary:Va c k
 primary:PU c k
 place:Vb c k
def Ot {c:PC} {σ:PS} {t:lB} (h:σ.at_<=c.ts.length) (f:B7 c.ts σ t=true) (E:t≠[]):mS c.ts (Ao σ)+1=mS c.ts σ:=Ca (AN h f E)
def W9 (c:PC) (k:Nat) (IH : ∀j,j<=k->ExprsC c j):Vb c (k+1):=by
 intro σ w O hk;have X:=eG (· = c.pb) w;have bb:=O.pbB;have hB:=O.B;have hn:=AM (n:=c.n) O.at_;cases hh:B7 c.ts (A4 c.ts c.n σ).2 [91]
 . rw [show BF c.ts c.n (k+1) σ=(.mk 2 0 (A4 c.ts c.n σ).1 [],(A4 c.ts c.n σ).2) from by rw [BF];simp [hh]];refine Af func274 ntmps274 rfl rfl ?_;refine cS (eA [_,_,_,_] ?_);intro b1 w2 h5 x6 p7 z8;revert O X;refine eE x6 ?_;intro O X;refine eK ?_;refine cC rfl (EY _ _ _ Ag) ?_;rintro _ bc ⟨⟨⟩,⟨h9,ab⟩⟩;have bd:=ab.size;have h5:=h5.fr ab Ab;clear O;have X:=X.fr ab Ab;refine eK ?_;refine cC rfl (BS _ _ _ _ Ag Az Ag) ?_;rintro _ be ⟨⟨⟩,⟨ac,ad⟩⟩;have bf:=ad.size;revert h5 X;refine eF ad ?_;intro h5 X;refine eK ?_;refine C1 (xB [_,_,_,_]) (eS [_,_,_,_] h5 ?_);intro bg aj ak z20;revert ac X;refine eF ak ?_;intro ac X;refine eK ?_;refine xC aj ?_;exact AX CX Ag X
 . rw [show BF c.ts c.n (k+1) σ=(.mk 3 0 (A4 c.ts c.n σ).1 [(Bx c.ts c.n k 1 (Ao (A4 c.ts c.n σ).2)).1],AA c.ts c.n (Bx c.ts c.n k 1 (Ao (A4 c.ts c.n σ).2)).2 [93]) from by rw [BF];simp [hh]];have hm:=Ot hn.wf hh Az;have bh:=BC hn;have hf:4*mS c.ts (Ao (A4 c.ts c.n σ).2)+4<=k:=by omega
   refine Af func274 ntmps274 rfl rfl ?_;refine cS (eA [_,_,_,_] ?_);intro bi bj f al bk bl;revert O X;refine eE al ?_;intro O X;refine eK ?_;refine cC rfl (EY _ _ _ Ag) ?_;rintro _ am ⟨⟨⟩,⟨bm,N⟩⟩;have an:=N.size;have f:=f.fr N Ab;clear O;have X:=X.fr N Ab;refine eK ?_;refine cC rfl (Cf _ _ _ _ Ag Az Ag) ?_;rintro _ ao ⟨⟨⟩,⟨ap,U⟩⟩;have aq:=U.size;revert f X;refine eF U ?_;intro f X;refine eK ?_;refine eQ rfl ((IH k (bJ _)).expr _ _ _ Ag hf Az Az) ?_;rintro _ ar ⟨au,⟨av,⟨⟨⟩,⟨E,⟨V,Y⟩⟩⟩⟩⟩;have aw:=Y.size;revert f X;refine eF Y ?_;intro f X;refine xA [_,_,_,_] ?_;intro ax ay ae;refine eI [_,_,_,_] ae ?_;intro az F af a0 a1;revert E V f X;refine eE af ?_;intro E V f X;refine eK ?_;refine cC rfl (BU _ _ _ _ Ag Az) ?_;rintro _ a2 ⟨⟨⟩,⟨L,Z⟩⟩;revert F E;refine eZ Z ?_;intro a3 F E;revert f X;refine eF Z ?_;intro f X;refine eK ?_;refine Au (xS [_,_,_,_]) rfl ?_ aFh;rintro _ a4 ⟨a5,rfl,M,a6⟩;have aa:=M.blk;have ag:=M.ext;have a7:=M.pos;have a8:=M.size;revert L F E f X;refine eE ag ?_;intro L F E f X;refine C1 (xB [_,_,_,_]) (eS [_,_,_,_] f ?_);intro a9 ah ai ba;revert aa L F E X;refine eF ai ?_;intro aa L F E X;refine eK ?_;refine xC ah ?_
   exact AX (J4 Ag Ab Ag (fun b h=>by omega)) Ag X
def TF (c:PC) (k:Nat) (IH : ∀j,j<=k->ExprsC c j):PU c (k+1):=by
 intro σ w hP hk;have X:=eG (· = c.pb) w;have hpb:=hP.pbB;have hB:=hP.B;by_cases h2:(Ap c.ts σ).kind=2
 . rw [show Bp c.ts c.n (k+1) σ=(.mk 1 (B1 c.ts c.n 0 9223372036854775807 σ).1 [] [],(B1 c.ts c.n 0 9223372036854775807 σ).2) from by rw [Bp];simp [h2]];refine Af func284 ntmps284 rfl rfl ?_;refine cS (eA [_,_,_,_] ?_);intro b1 w2 h5 x6 p7 z8;revert hP X;refine eE x6 ?_;intro hP X;refine eK ?_;refine cC rfl (Bg _ _ _ Ag) ?_;rintro _ ci ⟨⟨⟩,x9⟩;revert h5 hP X;refine eY x9 ?_;intro cj h5 hP X;refine C1 (AR Ac rfl rfl rfl rfl rfl rfl) ?_;refine eK ?_;refine cC rfl (PT _ _ _ _ _ Ag Az) ?_;rintro _ ck ⟨⟨⟩,⟨N,M⟩⟩;have cl:=M.size;have h5:=h5.fr M Ab;clear hP;have X:=X.fr M Ab;refine C1 (xB [_,_,_,_]) (eS [_,_,_,_] h5 ?_);intro cm aa ab cn;revert N X;refine eF ab ?_;intro N X;refine eK ?_;refine xC aa ?_;exact AX CX Ag X
 cases ht:B7 c.ts σ [116,111,112]
 case true=>
  rw [show Bp c.ts c.n (k+1) σ=(.mk 4 0 (A4 c.ts c.n (AA c.ts c.n (Ao σ) [40])).1 [],AA c.ts c.n (A4 c.ts c.n (AA c.ts c.n (Ao σ) [40])).2 [41]) from by rw [Bp];simp [h2,ht]];refine Af func284 ntmps284 rfl rfl ?_;refine cS (eA [_,_,_,_] ?_);intro co cp g ac cq cr;revert hP X;refine eE ac ?_;intro hP X;refine eK ?_;refine cC rfl (Bg _ _ _ Ag) ?_;rintro _ ak ⟨⟨⟩,ad⟩;revert g hP X;refine eY ad ?_;intro al g hP X;refine C1 (AR Ac rfl rfl rfl rfl rfl rfl) ?_;refine eK ?_;refine cC rfl (Cf _ _ _ _ Ag Az Ag) ?_;rintro _ am ⟨⟨⟩,⟨an,l⟩⟩;have ao:=l.size;have g:=g.fr l Ab;clear hP;have X:=X.fr l Ab;refine eK ?_;refine eQ rfl (KM _ _ _ _ Ag) ?_;rintro _ ap ⟨aq,⟨ar,⟨⟨⟩,⟨q,⟨r,s⟩⟩⟩⟩⟩;have au:=s.size;revert g X;refine eF s ?_;intro g X;refine eS [_,_,_,_] g ?_;intro av O Q aw;revert q r X;refine eF Q ?_;intro q r X;refine eK ?_;refine xC O ?_;exact AX CX Ag X
 cases hs:B7 c.ts σ [115,105,122,101]
 case true=>
  rw [show Bp c.ts c.n (k+1) σ=(.mk 5 0 (A4 c.ts c.n (AA c.ts c.n (Ao σ) [40])).1 [],AA c.ts c.n (A4 c.ts c.n (AA c.ts c.n (Ao σ) [40])).2 [41]) from by rw [Bp];simp [h2,ht,hs]];refine Af func284 ntmps284 rfl rfl ?_;refine cS (eA [_,_,_,_] ?_);intro cs ct f ae cu cv;revert hP X;refine eE ae ?_;intro hP X;refine eK ?_;refine cC rfl (Bg _ _ _ Ag) ?_;rintro _ ax ⟨⟨⟩,af⟩;revert f hP X;refine eY af ?_;intro ay f hP X;refine C1 (AR Ac rfl rfl rfl rfl rfl rfl) ?_;refine eK ?_;refine cC rfl (BS _ _ _ _ Ag Az Ag) ?_;rintro _ az ⟨⟨⟩,⟨a0,m⟩⟩;have a1:=m.size;have f:=f.fr m Ab;clear hP;have X:=X.fr m Ab;refine eK ?_;refine cC rfl (Cf _ _ _ _ Ag Az Ag) ?_;rintro _ a2 ⟨⟨⟩,⟨a3,t⟩⟩;have a4:=t.size;revert f X;refine eF t ?_;intro f X;refine eK ?_;refine eQ rfl (KM _ _ _ _ Ag) ?_;rintro _ a5 ⟨a6,⟨a7,⟨⟨⟩,⟨u,⟨v,x⟩⟩⟩⟩⟩;have a8:=x.size;revert f X;refine eF x ?_;intro f X;refine eS [_,_,_,_] f ?_;intro a9 R S ba;revert u v X;refine eF S ?_;intro u v X;refine eK ?_;refine xC R ?_;exact AX CX Ag X
 cases hp:B7 c.ts σ [40]
 case true=>
  rw [show Bp c.ts c.n (k+1) σ=((Bx c.ts c.n k 1 (Ao σ)).1,AA c.ts c.n (Bx c.ts c.n k 1 (Ao σ)).2 [41]) from by rw [Bp];simp [h2,ht,hs,hp]];have hm:=Ot hP.at_ hp Az;have hf:4*mS c.ts (Ao σ)+4<=k:=by omega
  refine Af func284 ntmps284 rfl rfl ?_;refine cS (eA [_,_,_,_] ?_);intro cw cx a ag cy cz;revert hP X;refine eE ag ?_;intro hP X;refine eK ?_;refine cC rfl (Bg _ _ _ Ag) ?_;rintro _ bb ⟨⟨⟩,ah⟩;revert a hP X;refine eY ah ?_;intro bc a hP X;refine C1 (AR Ac rfl rfl rfl rfl rfl rfl) ?_;refine eK ?_;refine cC rfl (BS _ _ _ _ Ag Az Ag) ?_;rintro _ bd ⟨⟨⟩,⟨be,o⟩⟩;have bf:=o.size;have a:=a.fr o Ab;clear hP;have X:=X.fr o Ab;refine eK ?_;refine cC rfl (BS _ _ _ _ Ag Az Ag) ?_;rintro _ bg ⟨⟨⟩,⟨bh,y⟩⟩;have bi:=y.size;revert a X;refine eF y ?_;intro a X;refine eK ?_;refine cC rfl (Cf _ _ _ _ Ag Az Ag) ?_;rintro _ bj ⟨⟨⟩,⟨bk,z⟩⟩;have bl:=z.size;revert a X;refine eF z ?_;intro a X;refine eK ?_;refine eQ rfl ((IH k (bJ _)).expr _ _ _ Ag hf Az Az) ?_;rintro _ bm ⟨bn,⟨bo,⟨⟨⟩,⟨e,⟨A,C⟩⟩⟩⟩⟩;have bp:=C.size;revert a X;refine eF C ?_;intro a X;refine xA [_,_,_,_] ?_;intro bq br T;refine eI [_,_,_,_] T ?_;intro bs i U bt bu;revert e A a X;refine eE U ?_;intro e A a X;refine eK ?_;refine cC rfl (BU _ _ _ _ Ag Az) ?_;rintro _ bv ⟨⟨⟩,⟨D,E⟩⟩;revert i e;refine eZ E ?_;intro bw i e;revert a X;refine eF E ?_;intro a X;refine eK ?_;refine eS [_,_,_,_] a ?_;intro bx V W bz;revert D i e X;refine eF W ?_;intro D i e X;refine eK ?_;refine xC V ?_
  exact AX (dR Ag (fun b h=>by omega)) Ag X
 . rw [show Bp c.ts c.n (k+1) σ=BF c.ts c.n k σ from by rw [Bp];simp [h2,ht,hs,hp]];have hf:4*mS c.ts σ+1<=k:=by omega
   refine Af func284 ntmps284 rfl rfl ?_;refine cS (eA [_,_,_,_] ?_);intro c0 c1 d ai c2 c3;revert hP X;refine eE ai ?_;intro hP X;refine eK ?_;refine cC rfl (Bg _ _ _ Ag) ?_;rintro _ b0 ⟨⟨⟩,aj⟩;revert d hP X;refine eY aj ?_;intro b2 d hP X;refine C1 (AR Ac rfl rfl rfl rfl rfl rfl) ?_;refine eK ?_;refine cC rfl (BS _ _ _ _ Ag Az Ag) ?_;rintro _ b3 ⟨⟨⟩,⟨b4,p⟩⟩;have b5:=p.size;have d:=d.fr p Ab;clear hP;have X:=X.fr p Ab;refine eK ?_;refine cC rfl (BS _ _ _ _ Ag Az Ag) ?_;rintro _ b6 ⟨⟨⟩,⟨b7,F⟩⟩;have b8:=F.size;revert d X;refine eF F ?_;intro d X;refine eK ?_;refine cC rfl (BS _ _ _ _ Ag Az Ag) ?_;rintro _ b9 ⟨⟨⟩,⟨ca,G⟩⟩;have cb:=G.size;revert d X;refine eF G ?_;intro d X;refine eK ?_;refine eQ rfl ((IH k (bJ _)).place _ _ Ag hf) ?_;rintro _ cc ⟨cd,⟨ce,⟨⟨⟩,⟨I,⟨J,L⟩⟩⟩⟩⟩;have cf:=L.size;revert d X;refine eF L ?_;intro d X;refine eS [_,_,_,_] d ?_;intro cg Y Z ch;revert I J X;refine eF Z ?_;intro I J X;refine eK ?_;refine xC Y ?_;exact AX (dR Ag (fun b h=>by omega)) Ag X
def Xa (c:PC) (k:Nat) (IH : ∀j,j<=k->ExprsC c j):Va c (k+1):=by
 intro σ w hP hk;have X:=eG (· = c.pb) w;have hpb:=hP.pbB;have hB:=hP.B;cases h1:B7 c.ts σ [45]
 case true=>
  rw [show Bj c.ts c.n (k+1) σ=(.mk 6 0 [] [(Bj c.ts c.n k (Ao σ)).1],(Bj c.ts c.n k (Ao σ)).2) from by rw [Bj];simp [h1]];have hm:=Ot hP.at_ h1 Az;have hf:4*mS c.ts (Ao σ)+3<=k:=by omega
  refine Af func281 ntmps281 rfl rfl ?_;refine cS (eA [_,_,_,_] ?_);intro b1 w2 h5 x6 p7 z8;revert hP X;refine eE x6 ?_;intro hP X;refine eK ?_;refine cC rfl (Cf _ _ _ _ Ag Az Ag) ?_;rintro _ ar ⟨⟨⟩,⟨h9,y⟩⟩;have au:=y.size;have h5:=h5.fr y Ab;clear hP;have X:=X.fr y Ab;refine eK ?_;refine eQ rfl ((IH k (bJ _)).unary _ _ Ag hf) ?_;rintro _ av ⟨aw,⟨ax,⟨⟨⟩,⟨m,⟨o,z⟩⟩⟩⟩⟩;have ay:=z.size;revert h5 X;refine eF z ?_;intro h5 X;refine Au (xS [_,_,_,_]) rfl ?_ aFh;rintro _ az ⟨a0,rfl,p,a1⟩;have A:=p.blk;have I:=p.ext;have a2:=p.pos;have a3:=p.size;revert m o h5 X;refine eE I ?_;intro m o h5 X;refine C1 (xB [_,_,_,_]) (eS [_,_,_,_] h5 ?_);intro a4 J L a5;revert A m o X;refine eF L ?_;intro A m o X;refine eK ?_;refine xC J ?_;exact AX (J4 Ag Ab Ag (fun b h=>by omega)) Ag X
 cases h2:B7 c.ts σ [33]
 case true=>
  rw [show Bj c.ts c.n (k+1) σ=(.mk 7 0 [] [(Bj c.ts c.n k (Ao σ)).1],(Bj c.ts c.n k (Ao σ)).2) from by rw [Bj];simp [h1,h2]];have hm:=Ot hP.at_ h2 Az;have hf:4*mS c.ts (Ao σ)+3<=k:=by omega
  refine Af func281 ntmps281 rfl rfl ?_;refine cS (eA [_,_,_,_] ?_);intro a6 a7 a M a8 a9;revert hP X;refine eE M ?_;intro hP X;refine eK ?_;refine cC rfl (BS _ _ _ _ Ag Az Ag) ?_;rintro _ O ⟨⟨⟩,⟨ba,i⟩⟩;have Q:=i.size;have a:=a.fr i Ab;clear hP;have X:=X.fr i Ab;refine eK ?_;refine cC rfl (Cf _ _ _ _ Ag Az Ag) ?_;rintro _ R ⟨⟨⟩,⟨S,q⟩⟩;have T:=q.size;revert a X;refine eF q ?_;intro a X;refine eK ?_;refine eQ rfl ((IH k (bJ _)).unary _ _ Ag hf) ?_;rintro _ U ⟨V,⟨W,⟨⟨⟩,⟨e,⟨f,r⟩⟩⟩⟩⟩;have Y:=r.size;revert a X;refine eF r ?_;intro a X;refine Au (xS [_,_,_,_]) rfl ?_ aFh;rintro _ Z ⟨aa,rfl,g,ab⟩;have s:=g.blk;have C:=g.ext;have ac:=g.pos;have ad:=g.size;revert e f a X;refine eE C ?_;intro e f a X;refine C1 (xB [_,_,_,_]) (eS [_,_,_,_] a ?_);intro ae D E af;revert s e f X;refine eF E ?_;intro s e f X;refine eK ?_;refine xC D ?_;exact AX (J4 Ag Ab Ag (fun b h=>by omega)) Ag X
 . rw [show Bj c.ts c.n (k+1) σ=Bp c.ts c.n k σ from by rw [Bj];simp [h1,h2]];have hf:4*mS c.ts σ+2<=k:=by omega
   refine Af func281 ntmps281 rfl rfl ?_;refine cS (eA [_,_,_,_] ?_);intro bb bc d N bd be;revert hP X;refine eE N ?_;intro hP X;refine eK ?_;refine cC rfl (BS _ _ _ _ Ag Az Ag) ?_;rintro _ ag ⟨⟨⟩,⟨bf,l⟩⟩;have ah:=l.size;have d:=d.fr l Ab;clear hP;have X:=X.fr l Ab;refine eK ?_;refine cC rfl (BS _ _ _ _ Ag Az Ag) ?_;rintro _ ai ⟨⟨⟩,⟨aj,t⟩⟩;have ak:=t.size;revert d X;refine eF t ?_;intro d X;refine eK ?_;refine eQ rfl ((IH k (bJ _)).primary _ _ Ag hf) ?_;rintro _ al ⟨am,⟨an,⟨⟨⟩,⟨u,⟨v,x⟩⟩⟩⟩⟩;have ao:=x.size;revert d X;refine eF x ?_;intro d X;refine eS [_,_,_,_] d ?_;intro ap F G aq;revert u v X;refine eF G ?_;intro u v X;refine eK ?_;refine xC F ?_;exact AX (dR Ag (fun b h=>by omega)) Ag X
end Bk
