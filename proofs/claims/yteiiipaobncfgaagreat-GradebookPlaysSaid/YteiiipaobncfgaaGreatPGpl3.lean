/- Texts that the proofs of GradebookPlays need. No condition. (Part 3 of 9.) -/
import Derived.Test.YteiiipaobncfgaaGreatPGpl2
set_option linter.unusedSimpArgs false
set_option linter.unusedVariables false
set_option linter.defProp false
set_option maxRecDepth 100000
set_option maxHeartbeats 4000000
open Go.Proofs.Tryz
open Or renaming inl->gA,inr->gB
open Go.Result renaming andThen->gF
open Go renaming Calls->gS
open Except renaming bind->gZ
open Go.Value renaming slice->iA,int->iV,ownBlock->kw
open Nat renaming blt->iC,ble->jW,beq->kk
open Go.Region renaming ready->iH,binds->jM
open List renaming replicate->iK,range->jQ
open Go.DataW renaming trod->iQ
open Go.Builtin renaming zeroCells->jI
open Go.Addr renaming add->jY
open Go.Oper renaming wp->km
open Array renaming replicate->kn
open Go.IntKind renaming wrap->kN
open Go.Sem renaming run->kV
namespace Bk
abbrev mD:=@Nd.sits.wide
abbrev mT:=@Rows.fr
abbrev m8:=@VDs.fr
abbrev nd:=@Rows.wide
abbrev nn:=@OwnI.fr
abbrev nu:=@SV.sits.wide
abbrev nA:=@VDs.wide
abbrev nD:=@SV.sits.fr
abbrev nF:=@IntsAt.at
end Bk
open Bk.Nd renaming size->mF,kind->mY,kids->nb
open Bk.Value renaming one->mG
namespace Bk
open Go Go.RowKit
structure OwnM {α:Type} (sh:Shape α) (w:wD) (R:nP) (B:Nat) (e:TypeId) (v:Value) (xs:List α):Prop where
 ex:∃css:List lV,Own w B e sh.sz v xs.length css.flatten/\css.length=xs.length /\ ∀(i:Nat) (x:α) (cs:lV),xs[i]? = some x->css[i]? = some cs->sh.rep w (λb=>(R b\/B<=b)/\v.ownBlock≠some b) x cs
section
variable {α:Type} {sh:Shape α} {R:nP} {B e:Nat} {w w':wD} {v:Value} {xs:List α}
def OwnM.rows (h:OwnM sh w R B e v xs) (Z:xs≠[]):∃g cap,v = .slice (some ⟨g,0,none⟩) xs.length cap/\B<=g /\ ∀(i:Nat) (x:α),xs[i]? = some x -> ∃cs,Row w ⟨g,i*sh.sz,none⟩ cs/\sh.rep w (λb=>R b\/B<=b) x cs:=by
 obtain ⟨G,h1,h2,Y⟩:=h.ex;rcases h1.row with ⟨rfl,hn,-⟩|⟨g,cap,rfl,hg,aa,hr⟩
 . exact absurd (List.length_eq_zero_iff.1 hn) Z
 . refine ⟨g,cap,rfl,hg,λi x O=>?_⟩;have ab:i<xs.length:=by
    rcases gQ i xs.length with h|h
    . exact h
    . rw [gM h] at O;cases O
   have hc:G[i]? = some G[i]:=fY Ab;have M:∀cs∈G,cs.length=sh.sz:=λcs U=>by
    obtain ⟨k,hk,rfl⟩:=List.mem_iff_getElem.1 U;exact sh.len (Y k xs[k] G[k] (fY Ab) (fY hk))
   obtain ⟨e1,e2⟩:=Fq M (show i<G.length by omega);refine ⟨G[i],λj u V=>?_,sh.mono (Y i x _ O hc) (λ_ h=>h.1) (λ_ _ _ _ h=>h)⟩;have X:j<G[i].length:=by
    rcases gQ j G[i].length with h|h
    . exact h
    . rw [gM h] at V;cases V
   have N:G.flatten[i*sh.sz+j]? = some u:=by
    rw [e1,iG,gU Ab,e2,lX,gN X];exact V
   have:=hr.at (i:=i*sh.sz+j) N;have e:(⟨g,i*sh.sz,none⟩:Addr).add j=⟨g,0+(i*sh.sz+j),none⟩:=by unfold jY;by_cases h0:j=0<;>simp [h0]
   rw [e];exact this
end
open Go.Proofs
attribute [local irreducible] Go.Calls
def Dv {P:Program} {n:Nat} {l:Sl} {w:wD} {Q:Exit->Act->wD->Prop} {x y:Code} {ι:Type} (L:ι->Sl) (I:ι->wD->Prop) (h:CW P n x (Exit.then (λa w=> ∃i,Env n (L i) a/\I i w) Q) l w) (k:∀i w,I i w->CW P n y Q (L i) w):CW P n x (Exit.then (Code.wp P y Q) Q) l w:=by
 unfold CW at h k ⊢;intro a G;refine Code.wp_mono (λe a w q=>?_) (h a G);cases e with
 | normal=>
  obtain ⟨i,M,N⟩:=q;exact k i w N a M
 | _=>exact q
def Ov (v:VD):v.cells.length=3:=rfl
def aH (v:VD):v.cells.all mG=true:=rfl
def PT {S:nP} {w:wD} {l:List VD} {a:oA} (h:VDs S w l a):Rows S w (l.flatMap VD.cells) a:=by
 rcases h with h|⟨b,o,G,M,N⟩
 . subst h;exact gA rfl
 . exact gB ⟨b,o,G,M,Nj Ov l o (λi x O=>N i x O)⟩
def LK {S:nP} {w:wD} {l:List VD} {a:oA} (h:Rows S w (l.flatMap VD.cells) a):VDs S w l a:=by
 cases l with
 | nil=>exact gA rfl
 | cons v r=>
  rcases h with h|⟨b,o,G,M,N⟩
  . simp at h
  . exact gB ⟨b,o,G,M,λi x O=>JV Ov (v::r) o N i x O⟩
def VCopyR (l:List VD) (w:wD):Ending->wD->Prop:=λe w'=> ∃a c,e = .returned (.slice a l.length c)/\VDs (λb=>w.heap.size<=b/\b<w'.heap.size) w' l a/\Ext w w'/\l.length<=c
def VCopyR.ret {l:List VD} {w:wD} {e:Ending} {w':wD} (h:VCopyR l w e w'):∃v,e = .returned v:=by
 obtain ⟨_,_,h,-⟩:=h;exact ⟨_,h⟩
def RJ {w w':wD} (X:Ext w w'):VCopyR [] w (.returned (.slice none 0 0)) w':=⟨none,0,rfl,gA rfl,X,gP _⟩
def RK {l:List VD} {e B g cap m:Nat} {w w':wD} (G:0+l.length=m) (h:OwnF e 3 B w' g cap m ([]++l.flatMap VD.cells)) (M:w.heap.size<=g) (X:Ext w w'):VCopyR l w (.returned (.slice (some ⟨g,0,none⟩) m cap)) w':=by
 have N:=h.lt;subst G;exact ⟨some ⟨g,0,none⟩,cap,by rw [iR],LK (h.rows ⟨M,N⟩),X,by have:=h.le;omega⟩
def Hz (l:List VD) (hl:l.length<=1000000000) (S:nP) (a:oA) (c:Nat) (w:wD) (G:VDs S w l a) :
 Calls prog 58 #[.slice a l.length c] w (VCopyR l w):=by
 have X:=Ne w;have hd:=G5 Ov l;have ho:=Ky aH l;cases a with
 | none=>
  have h0:l=[]:=by
   rcases G with h|⟨b,o,h,-⟩
   . exact h
   . cases h
  subst h0;refine Ad func58 ntmps58 rfl rfl (eK ?_);refine C1 (Lx Ac rfl rfl) (kR ?_);exact RJ X
 | some p=>
  have G:=(PT G).ltA;refine Ad func58 ntmps58 rfl rfl (eK ?_);refine C1 (Ly Ac rfl rfl) (eK ?_);refine Az (DB (B:=w.heap.size) Ac rfl rfl Ab) rfl ?_ aFh;rintro _ ab ⟨ac,rfl,ad,ae,af,O⟩;revert X G;refine eE O ?_;intro X G;refine C1 Mv (Az (Bo Ac Ca rfl rfl rfl rfl AR rfl rfl rfl Af Af hd ho Ab) rfl ?_ aFh);rintro _ U ⟨V,N,rfl,Y,Z,aa,M⟩;have X:=X.fr M Ab;refine kR ?_;exact RK rfl Af Ab X
end Bk
namespace Bk
open Go Go.RowKit
def WF (r:Option Nat):Fence:={ Fence.wide with round:=r }
section base
variable {P:Program} {r:Option Nat} {m:Nat} {Q:Exit->Act->wD->Prop}
def wf_calls {f:FuncId} {args:Array Value} {w:wD} {R:Ending->wD->Prop}:CallsIn (WF r) m P f args w R↔Calls P f args w R:=callsIn_wide (n:=m)
def Jm {p:Prop} (h:(WF r).depth.isSome=true):p:=by simp [WF,Fence.wide] at h
def Yn {row:String} {args:Array Value} {w:wD} {R:Value->wD->Prop} (h:Go.Rows P row args w R):RowsIn (WF r) m P row args w R:=λc cs _=>
 let ⟨v,w',hR,hs⟩:=h c cs
 ⟨v,w',hR,stepsIn_wide.2 hs⟩
def Gd (o:Oper):Bool:=match o.op with
 | .defer _=>false
 | _=>true
def VR {o:Oper} (h:Gd o=true):∀c,o.op≠.defer c:=λc e=>by simp [Gd,e] at h
def SX {o:Oper} {a:Act} {w:wD} {K:Act->wD->Prop} (G:Gd o=true) (h:o.wp P a w K Q):o.wpIn (WF r) m P a w K Q:=by
 refine ⟨λ_ _=>trivial,?_⟩;rw [Oper.semAt_eq _ _ _ (VR G)];unfold km at h;generalize (execOp a.eval o).run P w=x at h;cases x with
 | ok v w'=>cases v<;>simp only [Oper.upon] at h<;>simp only [Oper.uponIn]<;>first
  | exact h
  | exact h.elim
  | exact ⟨Jm,wf_calls.2 (iY h (λe w h=>by cases e<;>exact h))⟩
  | exact ⟨Jm,Yn h⟩
 | halt v w'=>cases v<;>simp only [Oper.upon] at h<;>simp only [Oper.uponIn]<;>first|exact h|exact h.elim
def Ow {ops:Array Oper} (N:¬LetsOut Q):∀(G:List Oper) (a:Act) (w:wD),G.all Gd=true->wpList P ops Q G a w->wpListIn (WF r) m P ops Q G a w
 | [],_,_,_,h=>h
 | o::G,a,w,M,h=>by
  simp only [lF,gD] at M;unfold wpList at h;unfold wpListIn;by_cases O:Region.wanted o (yielded ops a.tmps)=true
  . rw [AT O] at h ⊢;rcases h with h|h
    . exact Oper.wpIn_mono (λa w h=>Ow N G a w M.2 h) (SX M.1 h)
    . exact absurd h.2 N
  . rw [AC O] at h ⊢;exact ⟨λ_ _=>trivial,Ow N G _ w M.2 h⟩
def Bx {K:Act->wD->Prop} (h:¬LetsOut Q):¬LetsOut (Exit.then K Q):=h
def Bz {i:Nat} (h:¬LetsOut Q):¬LetsOut (Exit.inBlock i Q):=h
end base
def CR (P:Program) (n:Nat) (r:Option Nat) (c:Code) (Q:Exit->Act->wD->Prop) (l:Sl) (w:wD):Prop:= ∀a,Env n l a->c.wpIn (WF r) 0 P Q a w
section code
variable {P:Program} {n:Nat} {r:Option Nat} {Q:Exit->Act->wD->Prop} {l:Sl} {w:wD}
def SY {c:Code} (h:CR P n none c Q l w):CW P n c Q l w:=by unfold CW;exact λa G=>wpIn_wide.1 (h a G)
def cW {c:Code} (h:CW P n c Q l w):CR P n none c Q l w:=by unfold CW at h;exact λa G=>wpIn_wide.2 (h a G)
def C8 {x y:Code} (h:CR P n r x (Exit.then (y.wpIn (WF r) 0 P Q) Q) l w):CR P n r (.seq x y) Q l w:=λa G=>wpIn_seq (h a G)
def Cn {y:Code} (h:CR P n r y Q l w):QW n (Exit.then (y.wpIn (WF r) 0 P Q) Q) .normal l w:=by unfold QW;exact h
def FK (h:QW n Q .normal l w):CR P n r .skip Q l w:=by unfold QW at h;exact λa G=>wpIn_skip (h a G)
def Yo {i:Nat} (h:QW n Q (.exit i) l w):CR P n r (.exit i) Q l w:=by unfold QW at h;exact λa G=>wpIn_exit (h a G)
def VS (h:QW n Q .ret l w):CR P n r .ret Q l w:=by unfold QW at h;exact λa G=>wpIn_ret (h a G)
def Ge {i:Nat} {c:Code} (h:CR P n r c (Exit.inBlock i Q) l w):CR P n r (.block i c) Q l w:=λa G=>wpIn_block (h a G)
def SZ {c:Operand} {x y:Code} {b:Bool} (G:ev l c=some (.bool b)) (M:b=true->CR P n r x Q l w) (N:b=false->CR P n r y Q l w):CR P n r (.cond c x y) Q l w:=
 λa h=>wpIn_cond_split (h.ev G) (λe=>M e a h) (λe=>N e a h)
def Br {M:Nat} {G:List Oper} (N:G.all Gd=true) (O:¬LetsOut Q) (h:LW P n G.toArray Q G l w):CR P n r (.region M G.toArray false) Q l w:=by unfold LW at h;exact λa U=>wpIn_region_lit (Ow O G a w N (h a U))
end code
section draw
variable {P:Program} {ops:Array Oper} {Q:Exit->Act->wD->Prop} {S:wD->Prop} {K:Nat}
def GF (P:Program) (ops:Array Oper) (Q:Exit->Act->wD->Prop) (S:wD->Prop) (K:Nat):Nat->Array Bool->Act->wD->Prop
 | 0,listed,a,w=>iH .any ops listed=[]/\Q .normal a w
 | fuel+1,listed,a,w=>
  (iH .any ops listed=[]->Q .normal a w) /\
  ∀i∈iH .any ops listed,(i<K->wpOp P ops Q i (λa' w'=>S w'/\GF P ops Q S K fuel (listed.setIfInBounds i true) a' w') a w) /\
   (K<=i->wpOpIn (WF none) 0 P ops Q i (GF P ops Q S K fuel (listed.setIfInBounds i true)) a w)
def Yp {i:Nat} {a:Act} {w:wD} {G:Act->wD->Prop} (N:¬LetsOut Q) (O:∀o,ops[i]? = some o->Gd o=true) (h:wpOp P ops Q i G a w):wpOpIn (WF none) 0 P ops Q i G a w:=by
 unfold wpOp at h;unfold wpOpIn;cases ho:ops[i]? with
 | none=>rw [ho] at h;exact h
 | some o=>
  rw [ho] at h;simp only at h ⊢;by_cases M:Region.wanted o (yielded ops a.tmps)=true
  . rw [AT M] at h ⊢;rcases h with h|h
    . exact SX (O o ho) h
    . exact absurd h.2 N
  . rw [AC M] at h ⊢;exact ⟨λ_ _=>trivial,h⟩
def GG (N:¬LetsOut Q) (O:∀(i:Nat) (o:Oper),ops[i]? = some o->Gd o=true):∀(G:Nat) (M:Array Bool) (a:Act) (w:wD),GF P ops Q S K G M a w->wpAnyIn (WF none) 0 P .any ops Q G M a w
 | 0,_,_,_,h=>h
 | G+1,_,_,_,h=>⟨h.1,λi X=>by
  by_cases Y:i<K
  . exact wpOpIn_mono (λU w' V=>GG N O G _ U w' V.2) (Yp N (O i) ((h.2 i X).1 Y))
  . exact wpOpIn_mono (λU w' V=>GG N O G _ U w' V) ((h.2 i X).2 Ab)⟩
def Ox {i:Nat} {oi:Oper} {v:Value} (hi:ops[i]? = some oi) (hK:i<K) (af:D5 ops K i) (Y:∀(j:Nat) (o:Oper) cs b,ops[j]? = some o->o.op≠.select cs b)
 (hQ:∀c a w,Q (.panic c) (a.put oi.dst v) w->Q (.panic c) a w) :
 ∀(M:Nat) (G:Array Bool) (a:Act) (w:wD),DC ops G ->
  (∀j Z,ops[j]? = some Z->j≠i->G.getD j true=false->(∀e∈Z.after,jM .any e=true->e.on≠i)->oi.apart ops Z=true) ->
  i∈iH .any ops G->YieldsIf P ops S oi v a->S w ->
  GF P ops Q S K M (G.setIfInBounds i true) (a.put oi.dst v) w->GF P ops Q S K (M+1) G a w:=by
 intro M
 induction M with
 | zero=>
  intro G a w _ _ hr hy hS H;refine ⟨λh=>(by rw [h] at hr;cases hr),λj hj=>?_⟩;by_cases N:j=i
  . subst N;exact ⟨λ_=>hy.wpOp hi hS ⟨hS,H⟩,λh=>by omega⟩
  . have:=ready_mono hj N;rw [H.1] at this;cases this
 | succ M ih=>
  intro G a w ac O hr hy hS H;refine ⟨λh=>(by rw [h] at hr;cases hr),λj hj=>?_⟩;by_cases N:j=i
  . subst N;exact ⟨λ_=>hy.wpOp hi hS ⟨hS,H⟩,λh=>by omega⟩
  . obtain ⟨aa,Z,V,ab⟩:=mem_ready.1 hj;have U:¬G.getD i false=true:=λhc=>by
     have h0:=(mem_ready.1 hr).1;rcases gQ i G.size with h'|h'
     . simp [h'] at h0 hc;rw [h0] at hc;cases hc
     . simp [iN h'] at hc
    have ag:j<K:=by
     rcases gQ j K with h|h
     . exact h
     . exact absurd (af G j Z ac h V ab) U
    have h1:=(H.2 j (ready_mono hj N)).1 ag;have ad:∀e∈Z.after,jM .any e=true->e.on≠i:=λe he hb ah=>U (ah▸ab e he hb)
    have h2:=wpOp_putIf V (O j Z V N aa ad) (λcs b=>Y i oi cs b hi) (λcs b=>Y j Z cs b V) hQ hy h1;have X:∀k ok,ops[k]? = some ok->k≠i->(G.setIfInBounds j true).getD k true=false ->
     (∀e∈ok.after,jM .any e=true->e.on≠i)->oi.apart ops ok=true:=λk ok hk ai U aj=>by
     refine O k ok hk ai ?_ aj;by_cases ae:j=k
     . subst ae;exact aa
     . rw [getD_set_ne true ae] at U;exact U
    refine ⟨λ_=>wpOp_mono (λa' w' h3=>⟨h3.2.1,ih (G.setIfInBounds j true) a' w' (ac.set hj) X (ready_mono hr (l3 N)) h3.1 h3.2.1 ?_⟩) h2,λh=>by omega⟩;rw [lq _ _ N];exact h3.2.2
def HM (P:Program) (ops:Array Oper) (Q:Exit->Act->wD->Prop) (S:wD->Prop) (K:Nat):Sc->Act->wD->Prop
 | .done,a,w=>Q .normal a w
 | .pure i r,a,w=> ∃o v,ops.toList[i]? = some o/\YieldsIf P ops S o v a/\HM P ops Q S K r (a.put o.dst v) w
 | .fork i x r,a,w=>i<K/\wpOp P ops Q i (λa' w'=>S w'/\HM P ops Q S K x a' w') a w/\HM P ops Q S K r a w
 | .none,_,_=>True
 | .tail,a,w=>wpListIn (WF none) 0 P ops Q (ops.toList.drop K) a w
def IP:∀(f k:Nat) (G:Array Bool) (a:Act) (w:wD),K<=k->f+k=ops.size->EZ ops f k G=true->wpListIn (WF none) 0 P ops Q (ops.toList.drop k) a w->GF P ops Q S K f G a w
 | 0,k,G,a,w,V,X,M,h=>by
  have:ops.toList.drop k=[]:=iZ (by simp;omega);rw [this] at h;exact ⟨by simpa [EZ] using M,h⟩
 | f+1,k,G,a,w,V,X,M,h=>by
  simp only [EZ,gD,beq_iff_eq] at M;have N:k<ops.toList.length:=by simp;omega
  rw [gW N] at h;refine ⟨λe=>absurd (M.1.symm.trans e) AQ,λi O=>?_⟩;rw [M.1] at O;simp only [iB] at O;subst O;refine ⟨λh=>by omega,λ_=>?_⟩;have Y:ops[i]? = some ops.toList[i]:=by simp
  unfold wpListIn at h;unfold wpOpIn;rw [Y];simp only;split
  . rename_i U;rw [AT U] at h;exact Oper.wpIn_mono (λZ w' h'=>IP f (i+1) _ Z w' Ab Ab M.2 h') h
  . rename_i U;rw [AC U] at h;exact ⟨h.1,IP f (i+1) _ _ w Ab Ab M.2 h.2⟩
def HM.any (hs:Region.noSelect ops=true) (O:∀i,i<K->D5 ops K i) (hQ:C5 Q) :
 ∀(s:Sc) (f:Nat) (G:Array Bool) (a:Act) (w:wD),DC ops G->S w->HM P ops Q S K s a w ->
  (Sc.ok ops K true s f G=true->GF P ops Q S K f G a w) /\
  (Sc.ok ops K false s f G=true -> ∀i∈s.alts,∀f',f=f'+1->i<K/\wpOp P ops Q i (λZ w'=>S w'/\GF P ops Q S K f' (G.setIfInBounds i true) Z w') a w)
 | .done,f,G,a,w,N,U,h=>by
  refine ⟨λM=>?_,λM=>by simp [Sc.ok] at M⟩;have X:iH .any ops G=[]:=by simpa [Sc.ok] using M
  cases f with
  | zero=>exact ⟨X,h⟩
  | succ f=>exact ⟨λ_=>h,by rw [X];simp⟩
 | .none,f,G,a,w,N,U,h=>⟨λM=>by simp [Sc.ok] at M,λM=>by simp [Sc.alts]⟩
 | .tail,f,G,a,w,N,U,h=>⟨λM=>by
  simp only [Sc.ok,gD] at M;exact IP f K G a w (gP _) (iL M.1) M.2 h,λM=>by simp [Sc.ok] at M⟩
 | .pure i r,0,G,a,w,N,U,h=>⟨λM=>by simp [Sc.ok] at M,λM=>by simp [Sc.ok] at M⟩
 | .pure i r,f+1,G,a,w,N,U,h=>⟨λM=>by
  simp only [Sc.ok,gD] at M;obtain ⟨o,v,ho,hy,X⟩:=h;have hi:ops[i]? = some o:=by simpa using ho
  have V:i∈iH .any ops G:=by simpa using M.1.1.2
  exact Ox hi (gV M.1.1.1) (O i (gV M.1.1.1)) (kJ hs) (λc a w=>hQ o.dst v c a w) f G a w N (ln hi M.1.2) V hy U
   ((HM.any hs O hQ r f _ _ w (N.set V) U X).1 M.2),λM=>by simp [Sc.ok] at M⟩
 | .fork i x r,0,G,a,w,N,U,h=>⟨λM=>by simp [Sc.ok] at M,λM=>by simp [Sc.ok] at M⟩
 | .fork i x r,f+1,G,a,w,N,U,h=>by
  have key:i∈iH .any ops G->Sc.ok ops K true x f (G.setIfInBounds i true)=true->wpOp P ops Q i (λZ w'=>S w'/\GF P ops Q S K f (G.setIfInBounds i true) Z w') a w:=λV M=>
   wpOp_mono (λZ w' h'=>⟨h'.1,(HM.any hs O hQ x f _ Z w' (N.set V) h'.1 h'.2).1 M⟩) h.2.1
  have X:=HM.any hs O hQ r (f+1) G a w N U h.2.2;refine ⟨λM=>?_,λM j Y f' hf=>?_⟩
  . simp only [Sc.ok,gD] at M;obtain ⟨⟨⟨h1,h4⟩,h2⟩,h3⟩:=M;refine ⟨λe=>by rw [e] at h4;simp at h4,λj Y=>?_⟩;have:=iJ.1 h1 j Y;simp only [List.contains_eq_mem,gT,decide_eq_true_eq] at this;rcases this with rfl|aa
    . exact ⟨λ_=>key Y h2,λhK=>absurd h.1 Ab⟩
    . obtain ⟨k1,k2⟩:=X.2 h3 j aa f rfl;exact ⟨λ_=>k2,λhK=>by omega⟩
  . simp only [Sc.ok,gD] at M;obtain rfl:f=f':=by omega
    simp only [Sc.alts,gT] at Y;rcases Y with rfl|Y
    . exact ⟨h.1,key (by simpa using M.1.1) M.1.2⟩
    . exact X.2 M.2 j Y f rfl
end draw
def MW (P:Program) (n:Nat) (ops:Array Oper) (Q:Exit->Act->wD->Prop) (S:wD->Prop) (K:Nat) (s:Sc) (l:Sl) (w:wD):Prop:= ∀a,Env n l a->HM P ops Q S K s a w
def LI (P:Program) (n:Nat) (ops:Array Oper) (Q:Exit->Act->wD->Prop) (os:List Oper) (l:Sl) (w:wD):Prop:= ∀a,Env n l a->wpListIn (WF none) 0 P ops Q os a w
section draws
variable {P:Program} {n:Nat} {ops:Array Oper} {Q:Exit->Act->wD->Prop} {S:wD->Prop} {K:Nat} {l:Sl} {w:wD}
 {d i:Nat} {ty:TypeId} {pos:String} {after:Array Edge} {r x:Sc} {rest:List Oper}
def PU {X:Nat} {G:List Oper} (S:wD->Prop) (K:Nat) (s:Sc) (Y:P.follows .mixedOrders=true) (M:(Region.noSelect G.toArray&&ID G.toArray K&&iC K G.length&&G.all Gd&&Sc.ok G.toArray K true s G.length (kn G.length false))=true) (Z:C5 Q) (hL:¬LetsOut Q)
 (h:∀w1,Ext w w1->w1.heap=w.heap->S w1/\MW P n G.toArray Q S K s l w1):CW P n (.region X G.toArray true) Q l w:=by
 refine SY λa ha=>?_
 simp only [gD] at M;obtain ⟨h1,h2⟩:=h w.drew (Ne w).drew rfl;have N:∀i,i<K->D5 G.toArray K i:=DN M.1.1.1.2 (by have:=gV M.1.1.2;simp;omega);have O:DC G.toArray (kn G.length false):=λk o _ V=>by
  exfalso;rcases gQ k G.length with U|U
  . simp [U] at V
  . simp [iN,U] at V
 refine wpIn_region_any Y (GG (S:=S) (K:=K) hL (λi o ho=>iJ.1 M.1.2 o (iI (by simpa using ho))) _ _ _ _ ?_);have:=(HM.any M.1.1.1.1 N Z s G.length (kn G.length false) a w.drew O h1 (h2 a ha)).1 M.2;simpa using this
def S0 {G:List Oper} (M:Lj K ops.toList=some G) (h:LI P n ops Q G l w):MW P n ops Q S K .tail l w:=by
 unfold LI at h;intro a N;show wpListIn _ _ P ops Q (ops.toList.drop K) a w;rw [Gv M];exact h a N
def Oy:MW P n ops Q S K .none l w:=λ_ _=>trivial
def GH {op:Op} {v:Value} (M:ops.toList[i]? = some ⟨some d,op,ty,pos,after,none⟩) (h:Bm P n l S op ty v) (N:iC d n=true) (k:MW P n ops Q S K r ((d,v)::l) w) :
 MW P n ops Q S K (.pure i r) l w:=by
 unfold Bm at h;exact λa G=>⟨_,v,M,gA ⟨rfl,λw O=>h a w _ _ _ _ G O⟩,k _ (G.put N v)⟩
def Oz {op:Op} {G:Option Value->wD->Prop} (X:ops.toList[i]? = some ⟨some d,op,ty,pos,after,none⟩) (M:iC i K=true) (U:BG P n l op ty w G) (Y:iC d n=true)
 (k:∀v w1,G (some v) w1->S w1/\MW P n ops Q S K x ((d,v)::l) w1) (Z:∀w1,¬G none w1) (kr:MW P n ops Q S K r l w):MW P n ops Q S K (.fork i x r) l w:=λa N=>by
 unfold BG at U;refine ⟨gV M,?_,kr a N⟩;have O:ops[i]? = some ⟨some d,op,ty,pos,after,none⟩:=by simpa using X
 unfold wpOp;rw [O];simp only;rw [AT (Bd rfl)];left;exact U a _ _ _ _ _ _ N (λv w1 V=>⟨(k v w1 V).1,(k v w1 V).2 _ (N.put Y v)⟩) (λw1 h=>absurd h (Z w1))
def VT {G:List Oper} (M:¬LetsOut Q) (N:G.all Gd=true) (h:LW P n ops Q G l w):LI P n ops Q G l w:=by unfold LW at h;exact λa O=>Ow M G a w N (h a O)
def LM {y:Nat} {x:Operand} {xs:List Operand} {tys:Array TypeId} {vs:lV} {R:Ending->wD->Prop} (V:ev l x=some (.func (.yield y) #[] #[])) (O:evs l xs=some vs) (Y:YieldAt (WF none) 0 P y vs.toArray w R) (X:∀e w1,R e w1 -> ∃v,e = .returned v) (Z:iC d n=true)
 (k:∀v w1,R (.returned v) w1->LI P n ops Q rest ((d,v)::l) w1):LI P n ops Q (⟨some d,.call ⟨.value x,xs.toArray,tys⟩,ty,pos,after,none⟩::rest) l w:=λa U=>by
 obtain ⟨fn,tmps,G,N,hy,hr⟩:=Y;have M:xs.map a.eval=vs:=U.evs O;have e:(execOp a.eval ⟨some d,.call ⟨.value x,xs.toArray,tys⟩,ty,pos,after,none⟩).run P w = .ok (.round y fn tmps G N) w:=by
  simp only [execOp,resolve,U.ev V,Deferred.ofValue,gO,hH,gF,invoke];simpa [<-M] using hy
 unfold wpListIn;rw [AT (Bd rfl)];refine ⟨λ_ _=>trivial,?_⟩;rw [Oper.semAt_eq _ _ _ (λc e=>by cases e),e];refine ⟨Jm,RoundIn.mono hr λe w1 h=>?_⟩;obtain ⟨v,rfl⟩:=X e w1 h;exact k v w1 h _ (U.put Z v)
end draws
def Eo {α:Type} (c:Nat) (J:(nP)->List α->wD->Prop):Prop:=
 ∀A A' xs W W',J A xs W->Fr A W W'->(∀k,A k->c<=k)->(∀k,A' k->c<=k)->(∀k,k<W.heap.size->A' k->A k)->J A' xs W'
def Keeps (S:nP) (W W':wD):Prop:=Fr (λk=> ¬S k) W W'
def Keeps.size {S:nP} {W W':wD} (h:Keeps S W W'):W.heap.size<=W'.heap.size:=Fr.size h
def Keeps.block {S:nP} {W W':wD} (h:Keeps S W W') (k:Nat) (G:S k) (M:k<W.heap.size):W'.heap[k]? = W.heap[k]? := Fr.block h k M (λe=>e G)
def Keeps.refl (S:nP) (W:wD):Keeps S W W:=mx _ _
def Keeps.trans {S:nP} {A B C:wD} (h:Keeps S A B) (k:Keeps S B C):Keeps S A C:=Fr.trans h k
def Keeps.of_fr {S T:nP} {A B:wD} (h:Fr T A B) (G:∀k,S k -> ¬T k):Keeps S A B:=⟨h.os,h.tape,h.output,h.size,λk M N=>h.block k M (G k (Classical.not_not.1 N))⟩
def Keeps.of_ext {S:nP} {A B:wD} (h:Ext A B):Keeps S A B:=⟨h.os,h.tape,h.output,h.size,λ_ G _=>h.block G⟩
def Keeps.less {S T:nP} {A B:wD} (h:Keeps S A B) (G:∀k,T k->S k):Keeps T A B:=⟨Fr.os h,Fr.tape h,Fr.output h,Fr.size h,λk M N=>Fr.block h k M (λe=>N (λt=>e (G k t)))⟩
def IterOk {α:Type} (P:Program) (gf:Nat) (lb:lV) (rep:Nat->wD->lV->α->Prop) (Rt:nP) (S:List α) (w:wD):Prop:=
 ∀(y:Nat) (J Jx:(nP)->List α->wD->Prop) (W:wD),Keeps Rt w W->Eo W.heap.size J->Eo W.heap.size Jx ->
  (∀A pre x vs W1,(∀k,A k->W.heap.size<=k/\k<W1.heap.size)->J A pre W1->rep W.heap.size W1 vs x->(pre++[x]) <+: S ->
   YieldAt (WF none) 0 P y vs.toArray W1 λe W2=>Keeps (λk=>A k\/Rt k) W1 W2/\((e = .returned (.bool true)/\J A (pre++[x]) W2)\/(e = .returned (.bool false)/\Jx A (pre++[x]) W2))) ->
  J (λ_=>False) [] W ->
  Calls P gf (.func (.yield y) #[] #[]::lb).toArray W λe W'=>(∃v,e = .returned v) /\ ∃A,(∀k,A k->W.heap.size<=k)/\(J A S W' \/ ∃pre,pre <+: S/\Jx A pre W')
def Jn {α:Type} (P:Program) (gf:Nat) (lb:lV) (rep:Nat->wD->lV->α->Prop) (Rt:nP) (Pre Fin:List α->Prop) (w:wD):Prop:=
 ∀(y:Nat) (J Jx:(nP)->List α->wD->Prop) (W:wD),Keeps Rt w W->Eo W.heap.size J->Eo W.heap.size Jx ->
  (∀A pre x vs W1,(∀k,A k->W.heap.size<=k/\k<W1.heap.size)->J A pre W1->rep W.heap.size W1 vs x->Pre (pre++[x]) ->
   YieldAt (WF none) 0 P y vs.toArray W1 λe W2=>Keeps (λk=>A k\/Rt k) W1 W2/\((e = .returned (.bool true)/\J A (pre++[x]) W2)\/(e = .returned (.bool false)/\Jx A (pre++[x]) W2))) ->
  J (λ_=>False) [] W ->
  Calls P gf (.func (.yield y) #[] #[]::lb).toArray W λe W'=>(∃v,e = .returned v) /\ ∃A,(∀k,A k->W.heap.size<=k)/\((∃S,Fin S/\J A S W') \/ ∃pre,Pre pre/\Jx A pre W')
def IterOk.gen {α:Type} {P:Program} {G:Nat} {M:lV} {rep:Nat->wD->lV->α->Prop} {N:nP} {S:List α} {w:wD} (h:IterOk P G M rep N S w):Jn P G M rep N (· <+: S) (· = S) w:=
 λy J Jx W O U V X Y=>(h y J Jx W O U V X Y).mono λ_ _ ⟨Z,A,h7,h8⟩=>⟨Z,A,h7,h8.imp (λh=>⟨S,rfl,h⟩) id⟩
def Ul {W:wD} {r:Nat} {o G:Obj} (h:W.heap[r]? = some o):Fr (λk=>k=r) W (W.putObj r G):=
 ⟨rfl,rfl,rfl,AQ,λk _ M=>jF M⟩
def D9 {α:Type} (Kp:nP) (J Jx:(nP)->List α->wD->Prop) (A:nP) (xs:List α) (W:wD):Exit->Act->wD->Prop
 | .normal,_,W'=>Keeps Kp W W'/\J A xs W'
 | .ret,_,W'=>Keeps Kp W W'/\Jx A xs W'
 | _,_,_=>False
def BV {α:Type} {Kp:nP} {J Jx:(nP)->List α->wD->Prop} {A:nP} {xs:List α} {W:wD}:¬LetsOut (D9 Kp J Jx A xs W):=λ⟨_,_,h⟩=>h
def Jo {P:Program} {fn:Func} {R:Ending->wD->Prop} (h:∀w,¬R .outgrown w):¬LetsOut (bodyPost P fn R):=λ⟨_,w,e⟩=>h w e
def KD {α:Type} {P:Program} {g:Operand} {ps:Array Tmp} {assign body:Code} {Q:Exit->Act->wD->Prop} {a:Act} {w:wD} {gf:Nat} {lb:lV} {rep:Nat->wD->lV->α->Prop} {Rt:nP} {Pre Fin:List α->Prop}
 (hg:a.eval g = .func (.func gf) #[] lb.toArray) (eg:BU P gf=true) (hit:Jn P gf lb rep Rt Pre Fin w) (hps:∀c W vs x,rep c W vs x->vs.length=ps.size) (hRt:∀k,Rt k->k<w.heap.size)
 (J Jx:(nP)->List α->wD->Prop) (hJ:Eo w.heap.size J) (hJx:Eo w.heap.size Jx) (h0:J (λ_=>False) [] w)
 (hround:∀r A pre x vs W,(∀k,A k->w.heap.size<=k/\k<W.heap.size)->A (w.heap.size+1)->J A pre W->rep (w.heap.size+2) W vs x->Pre (pre++[x]) ->
  assign.wpIn (WF (some r)) 0 P (Exit.then (λa₁ W₁=>Keeps (λk=>A k\/Rt k) W W₁ /\ ∀W₂,Fr (λk=>k=w.heap.size+1) W₁ W₂->body.wpIn (WF (some r)) 0 P (D9 (λk=>A k\/Rt k) J Jx A (pre++[x]) W₂) a₁ W₂) (λ_ _ _=>False))
   { tmps:=(ps.zip vs.toArray).foldl (λt (p,v)=>t.setIfInBounds p v) a.tmps,defers:=[] } W)
 (hdone:∀A S W,Fin S->(∀k,A k->w.heap.size<=k)->J A S W->A w.heap.size->W.heap[w.heap.size]? = some (.deferred (some []))->Q .normal { a with defers:={ target:=.collected w.heap.size,args:= #[] }::a.defers } W)
 (hstop:∀A pre W,(∀k,A k->w.heap.size<=k)->Pre pre->Jx A pre W->A w.heap.size->W.heap[w.heap.size]? = some (.deferred (some []))->Q .ret { a with defers:={ target:=.collected w.heap.size,args:= #[] }::a.defers } W) :
 (Code.rangeFunc g ps assign body).wpIn (WF none) 0 P Q a w:=by
 refine wpIn_rangeFunc ?_;intro fn hfn
 show ∃l mark w₁ d w₁' f args w₂,(Instr.enterLoop fn a.tmps ps assign body none).run P w = .ok (l,mark) w₁/\_
 obtain ⟨n,hn⟩:∃n,n=w.heap.size:=⟨_,rfl⟩;rw [<-hn] at hJ hJx hround hdone hstop
 obtain ⟨rec,hrec⟩:∃rec:LoopState->Option Code->Loop,rec=λst pe=>{ state:=st,pending:=pe,fn,tmps:=a.tmps,params:=ps,assign,body,defers:=n }:=⟨_,rfl⟩
 obtain ⟨W1,hW1⟩:∃W1,(w.alloc (.deferred (some []))).alloc (.loop (rec .ready none))=W1:=⟨_,rfl⟩
 have hL1:W1.heap[n+1]? = some (.loop (rec .ready none)):=by
  rw [<-hW1,hn];have:=World.alloc_heap_new (w.alloc (.deferred (some []))) (.loop (rec .ready none));rwa [World.size_alloc] at this
 have hK1:W1.heap[n]? = some (.deferred (some [])):=by
  rw [<-hW1,hn];exact (Below.heap_alloc _ _ _ (by simp)).trans (World.alloc_heap_new w _)
 have hX1:Ext w W1:=by rw [<-hW1];exact (((Ne w).alloc _).alloc _)
 have hS1:W1.heap.size=n+2:=by rw [<-hW1];simp [hn]
 let U:(nP)->nP:=λA k=>A k\/k=n\/k=n+1
 have hU:∀ {A:nP},(∀k,A k->n+2<=k) -> ∀k,U A k->n<=k:=λh k hk=>by
  rcases hk with hk|hk|hk
  . have:=h k hk;omega
  . omega
  . omega
 have hput:∀ {A:nP} {G:(nP)->List α->wD->Prop} {xs:List α} {W:wD} {o o':Obj} {k:Nat},Eo n G->(∀k,A k->n+2<=k)->k=n+1->G (U A) xs W->W.heap[k]? = some o->G (U A) xs (W.putObj k o'):=
  λhG hA hk h ho=>hG _ _ _ _ _ h ⟨rfl,rfl,rfl,by simp,λi _ hi=>jF (λe=>hi (gB (gB (e.trans hk))))⟩ (hU hA) (hU hA) (λ_ _ h=>h)
 have hstab:∀ {G:(nP)->List α->wD->Prop} {st:LoopState} {pe:Option Code},Eo n G->Eo (n+2) (λA pre W=>G (U A) pre W/\W.heap[n+1]? = some (.loop (rec st pe))/\W.heap[n]? = some (.deferred (some []))):=
  λhG A A' xs W W' h hf hA hA' hs=>by
   have hlt:n+1<W.heap.size:=(Array.getElem?_eq_some_iff.1 h.2.1).1;refine ⟨hG _ _ _ _ _ h.1 ⟨hf.os,hf.tape,hf.output,hf.size,λk hk hU=>hf.block k hk (λe=>hU (gA e))⟩ (hU hA) (hU hA') (λk hk h=>?_),(hf.block _ hlt (λe=>by have:=hA _ e;omega)).trans h.2.1,(hf.block _ (by omega) (λe=>by have:=hA _ e;omega)).trans h.2.2⟩
   rcases h with h|h
   . exact gA (hs k hk h)
   . exact gB h
 refine ⟨n+1,[{ target:=.collected n,args:= #[] }],W1,{ target:=.fn (.func gf) lb.toArray,args:= #[.func (.yield (n+1)) #[] #[]] },W1,gf,
  (.func (.yield (n+1)) #[] #[]::lb).toArray,W1,?_,?_,λ_ _=>trivial,?_,Jm,?_⟩
 . rw [<-hW1,hrec,hn];exact run_enterLoop_outer _ _ _ _ _
 . simp only [resolve,hg]
   simp [go_sem]
 . simp only [invoke,gO,DA eg,gF,hH]
   simp
 . refine wf_calls.2 (iY (hit (n+1) (λA pre W=>J (U A) pre W/\W.heap[n+1]? = some (.loop (rec .ready none))/\W.heap[n]? = some (.deferred (some [])))
    (λA pre W=>Jx (U A) pre W/\W.heap[n+1]? = some (.loop (rec .done (some .ret)))/\W.heap[n]? = some (.deferred (some []))) W1 (Keeps.of_ext hX1) (by rw [hS1];exact hstab hJ) (by rw [hS1];exact hstab hJx) ?_ ⟨?_,hL1,hK1⟩) ?_)
   ·
    rw [hS1];rintro A pre x vs W hA ⟨hi,hl,hk⟩ hrep hpre;have hlt:n+1<W.heap.size:=(Array.getElem?_eq_some_iff.1 hl).1;have hy:=run_yield (P:=P) (args:=vs.toArray) hl (by rw [hrec];simpa using hps _ W vs x hrep);rw [hrec] at hy
    have hUA:∀k,U A k->n<=k/\k<W.heap.size:=λk hk=>by
     rcases hk with hk|hk|hk
     . have:=hA k hk;omega
     . omega
     . omega
    refine ⟨fn,_,assign,body,hy,roundIn_of_wpIn (F:=WF none) hfn (wpIn_mono (hround (n+1) (U A) pre x vs W hUA (gB (gB rfl)) hi hrep hpre) ?_)⟩;rintro e a₁ V₁ hp
    cases e with
    | normal=>
     obtain ⟨hk1,hb⟩:=hp;have hl1:V₁.heap[n+1]? = some (.loop (rec .ready none)):=(hk1.block _ (gA (gB (gB rfl))) hlt).trans hl;have hk1':V₁.heap[n]? = some (.deferred (some [])):=(hk1.block _ (gA (gB (gA rfl))) (by omega)).trans hk;refine ⟨_,run_beginRound hl1 (by rw [hrec]),wpIn_mono (hb _ (Ul hl1)) ?_⟩;have hlt1:n+1<V₁.heap.size:=(Array.getElem?_eq_some_iff.1 hl1).1;obtain ⟨V₂,hV₂⟩:∃V₂,V₁.putObj (n+1) (.loop { rec .ready none with state:=.busy })=V₂:=⟨_,rfl⟩;rw [hV₂]
     have hl2:V₂.heap[n+1]? = some (.loop { rec .ready none with state:=.busy }):=by rw [<-hV₂];exact World.putObj_heap_same hlt1
     have hk2:V₂.heap[n]? = some (.deferred (some [])):=by rw [<-hV₂];exact (jF (by omega)).trans hk1'
     have hs2:V₂.heap.size=V₁.heap.size:=by rw [<-hV₂];simp
     have hkeep:∀ {V₃:wD} {o:Obj},Keeps (λk=>U A k\/Rt k) V₂ V₃->Keeps (λk=>A k\/Rt k) W (V₃.putObj (n+1) o):=λhk3=>⟨(Fr.os hk3).trans ((show V₂.os=V₁.os by rw [<-hV₂];rfl).trans (Fr.os hk1)),(Fr.tape hk3).trans ((show V₂.tape=V₁.tape by rw [<-hV₂];rfl).trans (Fr.tape hk1)),(Fr.output hk3).trans ((show V₂.output=V₁.output by rw [<-hV₂];rfl).trans (Fr.output hk1)),by have:=hk1.size;have:=hk3.size;simp;omega,λk hlt hkk=>by
      have hk:=Classical.not_not.1 hkk
      have hne:k≠n+1:=λe=>by
       subst e
       rcases hk with hk|hk
       . have:=hA _ hk;omega
       . have:=hRt _ hk;omega
      have hk':U A k\/Rt k:=hk.imp gA id;rw [jF hne,hk3.block k hk' (by have:=hk1.size;omega),<-hV₂,jF hne]
      exact hk1.block k hk' hlt⟩
     have fin:∀(jump:Option Code) (V₃:wD),Keeps (λk=>U A k\/Rt k) V₂ V₃ ->
      (Instr.endRound (n+1) jump).run P V₃ = .ok (.bool jump.isNone) (V₃.putObj (n+1) (.loop (rec (if jump.isNone then .ready else .done) jump))) /\
      V₃.heap[n+1]? = some (.loop { rec .ready none with state:=.busy }) /\
      (V₃.putObj (n+1) (.loop (rec (if jump.isNone then .ready else .done) jump))).heap[n+1]? = some (.loop (rec (if jump.isNone then .ready else .done) jump)) /\
      (V₃.putObj (n+1) (.loop (rec (if jump.isNone then .ready else .done) jump))).heap[n]? = some (.deferred (some [])):=λjump V₃ hk3=>by
      have hl3:V₃.heap[n+1]? = some (.loop { rec .ready none with state:=.busy }):=(hk3.block _ (gA (gB (gB rfl))) (by omega)).trans hl2;have:=run_endRound (P:=P) jump hl3;rw [hrec] at this ⊢
      exact ⟨this,by rw [hrec] at hl3;exact hl3,World.putObj_heap_same (Array.getElem?_eq_some_iff.1 hl3).1,(jF (by omega)).trans ((hk3.block _ (gA (gB (gA rfl))) (by omega)).trans hk2)⟩
     rintro e a₃ V₃ hp
     cases e with
     | normal=>
      obtain ⟨hk3,hi3⟩:=hp;obtain ⟨hr,hl3,hl4,hk4⟩:=fin none V₃ hk3
      exact ⟨_,_,hr,hkeep hk3,.inl ⟨rfl,hput hJ (λk hk=>(hA k hk).1) rfl hi3 hl3,hl4,hk4⟩⟩
     | ret=>
      obtain ⟨hk3,hi3⟩:=hp;obtain ⟨hr,hl3,hl4,hk4⟩:=fin (some .ret) V₃ hk3
      exact ⟨_,_,hr,hkeep hk3,.inr ⟨rfl,hput hJx (λk hk=>(hA k hk).1) rfl hi3 hl3,hl4,hk4⟩⟩
     | exit id=>exact hp.elim
     | goto t=>exact hp.elim
     | panic ch=>exact hp.elim
     | outgrown=>exact hp.elim
    | exit id=>exact hp.elim
    | goto t=>exact hp.elim
    | ret=>exact hp.elim
    | panic ch=>exact hp.elim
    | outgrown=>exact hp.elim
   . refine hJ _ _ _ _ _ h0 ⟨hX1.os,hX1.tape,hX1.output,hX1.size,λk hk _=>hX1.block hk⟩ (λ_ h=>h.elim) (hU λ_ h=>h.elim) (λk hk h=>?_)
     rcases h with h|h|h
     . exact h
     . omega
     . omega
   ·
    rw [hS1];rintro e W2 ⟨⟨v,rfl⟩,A,hA,(⟨S,hS,hi,hl,hk⟩|⟨pre,hpre,hi,hl,hk⟩)⟩
    . exact ⟨none,_,by have:=run_endLoop (P:=P) hl (by rw [hrec];simp);rw [hrec] at this;exact this,hdone (U A) S _ hS (hU hA) (hput hJ hA rfl hi hl) (gB (gA rfl)) ((jF (by omega)).trans hk)⟩
    . exact ⟨some .ret,_,by have:=run_endLoop (P:=P) hl (by rw [hrec];simp);rw [hrec] at this;exact this,wpIn_ret (hstop (U A) pre _ (hU hA) hpre (hput hJx hA rfl hi hl) (gB (gA rfl)) ((jF (by omega)).trans hk))⟩
def RL {α:Type} {P:Program} {g:Operand} {ps:Array Tmp} {G N:Code} {Q:Exit->Act->wD->Prop} {a:Act} {w:wD} {X:Nat} {lb:lV} {rep:Nat->wD->lV->α->Prop} {V:nP} {S:List α}
 (hg:a.eval g = .func (.func X) #[] lb.toArray) (eg:BU P X=true) (Y:IterOk P X lb rep V S w) (Z:∀c W vs x,rep c W vs x->vs.length=ps.size) (aa:∀k,V k->k<w.heap.size)
 (J Jx:(nP)->List α->wD->Prop) (hJ:Eo w.heap.size J) (ab:Eo w.heap.size Jx) (h0:J (λ_=>False) [] w)
 (M:∀r A pre x vs W,(∀k,A k->w.heap.size<=k/\k<W.heap.size)->A (w.heap.size+1)->J A pre W->rep (w.heap.size+2) W vs x->(pre++[x]) <+: S ->
  G.wpIn (WF (some r)) 0 P (Exit.then (λa₁ W₁=>Keeps (λk=>A k\/V k) W W₁ /\ ∀W₂,Fr (λk=>k=w.heap.size+1) W₁ W₂->N.wpIn (WF (some r)) 0 P (D9 (λk=>A k\/V k) J Jx A (pre++[x]) W₂) a₁ W₂) (λ_ _ _=>False))
   { tmps:=(ps.zip vs.toArray).foldl (λt (p,v)=>t.setIfInBounds p v) a.tmps,defers:=[] } W)
 (O:∀A W,(∀k,A k->w.heap.size<=k)->J A S W->A w.heap.size->W.heap[w.heap.size]? = some (.deferred (some []))->Q .normal { a with defers:={ target:=.collected w.heap.size,args:= #[] }::a.defers } W)
 (U:∀A pre W,(∀k,A k->w.heap.size<=k)->pre <+: S->Jx A pre W->A w.heap.size->W.heap[w.heap.size]? = some (.deferred (some []))->Q .ret { a with defers:={ target:=.collected w.heap.size,args:= #[] }::a.defers } W) :
 (Code.rangeFunc g ps G N).wpIn (WF none) 0 P Q a w  :=
 KD hg eg Y.gen Z aa J Jx hJ ab h0 M (λA S' W e h=>by subst e;exact O A W h) U
section
variable {P:Program} {n:Nat} {l:Sl} {S:wD->Prop} {tab:Tab} {ty:TypeId}
def Dn {x y:Operand} {t e M sz len cap m:Nat} {sE:Sk} {a:oA} {k:IntKind} {U:Int} (T:TabOk P tab) (Y:AB tab t=some (.slice e,M)) (Z:AB tab e=some (sE,sz)) (hx:ev l x=some (.slice a len cap)) (hy:ev l y=some (.int k U)) (N:U=(m:Int)) (hm:m<=cap) :
 Bm P n l S (.slice t x none (some y) none) ty (.slice a m cap):=by
 subst N;unfold Bm;intro aa w ab pos after g V _;have X:P.underlying t=some (.slice e):=(T _ _ _ Y).under;have h:P.elem t=e:=by simp [Program.elem,X]
 have G:P.underlying t=some (.slice (P.elem t)):=by rw [h];exact X
 obtain ⟨i,hi,hs⟩:=(T _ _ _ Z).info;have O:(Go.sizeOf e).run P w = .ok sz w:=by simp [Go.sizeOf,typeInfo,program,kV,bind,Sem.bind,pure,hi,hs]
 have h1:(Instr.sliceAt t (.slice a len cap) none (some (.int k (m:Int))) none).run P w = .ok (.slice a m cap) w:=by
  rw [run_sliceAt_slice w t _ _ _ _ G,run_slice_h w t a len cap G k m Ab Ab];rw [h,O];cases a<;>simp [gF,sliced,jY]
 simp [execOp,V.ev hx,V.ev hy,gO,h1,gF]
def Yq {x y:Operand} {t e M sz len cap m:Nat} {sE:Sk} {a:oA} {k:IntKind} {U:Int} (T:TabOk P tab) (Y:AB tab t=some (.slice e,M)) (Z:AB tab e=some (sE,sz)) (hx:ev l x=some (.slice a len cap)) (hy:ev l y=some (.int k U)) (N:U=(m:Int)) (hm:m<=len) :
 Bm P n l S (.slice t x (some y) none none) ty (.slice (if cap=m then a else a.map (·.add (m*sz))) (len-m) (cap-m)):=by
 subst N;unfold Bm;intro aa w ab pos after g V _;have X:P.underlying t=some (.slice e):=(T _ _ _ Y).under;have h:P.elem t=e:=by simp [Program.elem,X]
 have G:P.underlying t=some (.slice (P.elem t)):=by rw [h];exact X
 obtain ⟨i,hi,hs⟩:=(T _ _ _ Z).info;have O:(Go.sizeOf e).run P w = .ok sz w:=by simp [Go.sizeOf,typeInfo,program,kV,bind,Sem.bind,pure,hi,hs]
 have h1:(Instr.sliceAt t (.slice a len cap) (some (.int k (m:Int))) none none).run P w = .ok (.slice (if cap=m then a else a.map (·.add (m*sz))) (len-m) (cap-m)) w:=by
  rw [run_sliceAt_slice w t _ _ _ _ G,run_slice_l w t a len cap G k m Ab Ab];rw [h,O];simp [gF,sliced]
 simp [execOp,V.ev hx,V.ev hy,gO,h1,gF]
end
open Go.Proofs
variable {n e:Nat} {w:wD} {v:Value} {xs:List Nd} {P:Program} {ty:TypeId} {cs:lV} {R:nP} {l:Sl}
attribute [local irreducible] Go.Calls
mutual
def Nd.walk:Nd->List Nd
 | .mk k n s l=>.mk k n s l::BX l
def BX:List Nd->List Nd
 | []=>[]
 | t::r=>t.walk++BX r
end
def G9:∀l m:List Nd,BX (l++m)=BX l++BX m
 | [],m=>by simp [BX]
 | t::r,m=>by simp only [jX,BX,G9 r m,iG]
def Jp {l:List Nd} {j:Nat} (h:j<l.length):BX (l.take (j+1))=BX (l.take j)++l[j].walk:=by
 rw [gC h,G9,BX,BX,lw]
def PV {l:List Nd} {j:Nat} (h:j<l.length):BX (l.take j)++l[j].walk <+: BX l:=by
 rw [<-Jp h];exact ⟨BX (l.drop (j+1)),by rw [<-G9,iT]⟩
def Yr (b0:Nat) (W:wD) (vs:lV) (t:Nd):Prop:= ∃pa pn pc a c,vs=[.slice pa pn pc,t.val a c]/\t.sits (λb=>b0<=b) W a/\t.kids.length<=c
def SliceR (n:Nat) (w:wD):Ending->wD->Prop:=λe w'=> ∃a c,e = .returned (.slice a n c)/\Ext w w'
def SliceR.ret {e:Ending} {w':wD} (h:SliceR n w e w'):∃v,e = .returned v:=by
 obtain ⟨_,_,h,-⟩:=h;exact ⟨_,h⟩
def RM {B g cap m k:Nat} {w':wD} (h:0+k=m) (_:OwnF e 1 B w' g cap m ([]++cs)) (X:Ext w w'):SliceR k w (.returned (.slice (some ⟨g,0,none⟩) m cap)) w':=⟨_,_,by rw [<-h,iR],X⟩
def KE (cs:lV) (n:Nat) (N:cs.length=n*1) (O:cs.all mG=true) (hl:n<=1000000000) (S:nP) (p:Addr) (c:Nat) (w:wD) (h:Rows S w cs (some p)) :
 Calls prog 88 #[.slice (some p) n c] w (SliceR n w):=by
 have X:=Ne w;have h:=h.ltA;refine Ad func88 ntmps88 rfl rfl (eK ?_);refine C1 (Ly Ac rfl rfl) (eK ?_);refine Az (DB (B:=w.heap.size) Ac rfl rfl Ab) rfl ?_ aFh;rintro _ w6 ⟨g1,rfl,h2,h3,h4,U⟩;revert X h;refine eE U ?_;intro X h;refine C1 Mv (Az (Bo Ac Ca rfl rfl rfl rfl AR rfl rfl rfl Af Af N O Ab) rfl ?_ aFh);rintro _ V ⟨Y,G,rfl,Z,aa,ab,M⟩;have X:=X.fr M Ab;refine kR ?_;exact RM rfl Af X
def KF (w:wD):Calls prog 88 #[.slice none 0 0] w (SliceR 0 w):=by
 have X:=Ne w;refine Ad func88 ntmps88 rfl rfl (eK ?_);refine C1 (Lx Ac rfl rfl) (kR ?_);exact ⟨_,_,rfl,X⟩
def PW {b:Nat} (h:Own w b e 1 v n cs) (G:cs.all mG=true) (M:n<=1000000000):Calls prog 88 #[v] w (SliceR n w):=by
 rcases h.row with ⟨rfl,rfl,rfl⟩|⟨g,cap,rfl,O,-,N⟩
 . exact KF w
 . exact KE cs n h.1 G M (λ_=>True) _ _ w (gB ⟨g,0,rfl,trivial,N⟩)
section
variable {S:wD->Prop} {tab:Tab} {zt:Ee} {ops:Array Oper} {Q:Exit->Act->wD->Prop} {rest:List Oper} {d:Nat} {pos:String} {after:Array Edge}
def RN {x y:Operand} {t N B m cap:Nat} {sE:Sk} {zs:lV} {u:Value} {p:Addr} (T:TabOk P tab) (Z:Cj P zt) (Y:AB tab t=some (.slice e,N)) (hE:AB tab e=some (sE,1)) (hz:CC zt e=some zs) (O:zs.length=1)
 (U:Dk P e=true) (hx:ev l x=some v) (hy:ev l y=some (.slice (some p) 1 cap)) (M:Own w B e 1 v m cs) (hr:Row w p [u]) (h1:mG u=true) (V:m<=10000000000) (hB:B<=w.heap.size) (hd:iC d n=true)
 (k:∀g G w1,Own w1 B e 1 (.slice (some ⟨g,0,none⟩) (m+1) G) (m+1) (cs++[u])->(v.ownBlock=some g\/w.heap.size<=g)->g<w1.heap.size->Fr (λk=>v.ownBlock=some k) w w1->LW P n ops Q rest ((d,.slice (some ⟨g,0,none⟩) (m+1) G)::l) w1) :
 LW P n ops Q (⟨some d,.call ⟨.builtin .append,#[x,y],#[t,t]⟩,ty,pos,after,none⟩::rest) l w:=by
 refine Az (DV T Z Y hE hz O U rfl hx hy M hr rfl (by simp [h1]) Ab Ab hB) hd (λv w1 h=>?_) aFh;obtain ⟨X,g2,g,G,g3,g4⟩:=h;subst g3;exact k g G w1 X g4 (X.blk (k:=g) rfl).2 g2
end
def Own.below {b sz:Nat} (h:Own w b e sz v n cs) (G:Nat) (N:∀k,v.ownBlock=some k->G<=k):Own w G e sz v n cs:=by
 obtain ⟨M,O|⟨g,cap,cur,rfl,V,U⟩⟩:=h
 . exact ⟨M,gA O⟩
 . exact ⟨M,gB ⟨g,cap,cur,rfl,N g rfl,U⟩⟩
def Own.shrink {b sz m:Nat} {p:Addr} {cap:Nat} (h:Own w b e sz (.slice (some p) n cap) n cs) (V:m<=n):Own w b e sz (.slice (some p) m cap) m (cs.take (m*sz)):=by
 have G:m*sz<=n*sz:=kF _ V;obtain ⟨M,⟨X,-⟩|⟨g,N,cur,O,Y,Z,hc,h3,h4,U⟩⟩:=h
 . simp at X
 . simp only [iF,gE] at O;obtain ⟨rfl,-,rfl⟩:=O;refine ⟨by rw [iE,M];omega,gB ⟨g,cap,cur,rfl,Y,Z,Ab,h3,h4,?_⟩⟩;rw [<-U,List.take_take,lu];rw [<-M,<-U,iE] at G;omega
structure VSt (y c bY bP bV:Nat) (A:nP) (W:wD) (pv:Value) (d:Nat):Prop where
 y0:Blk W bY [.func (.yield y) #[] #[]]
 p0:Blk W bP [pv]
 v0:Blk W bV [.func (.func 176) #[] #[.pointer (some ⟨bY,0,none⟩),.pointer (some ⟨bP,0,none⟩),.pointer (some ⟨bV,0,none⟩)]]
 own:∃cs:lV,cs.all mG=true/\Own W c 3 1 pv d cs
 a0:A bY
 a1:A bP
 a2:A bV
 ap:∀g,pv.ownBlock=some g->A g/\g≠bY/\g≠bP/\g≠bV
 ne:bY≠bP/\bV≠bP
 lt:∀k,A k->c<=k/\k<W.heap.size
def cI (Rt A:nP) (bP:Nat) (pv:Value):nP:=λk=>Rt k\/(A k/\k≠bP/\pv.ownBlock≠some k)
def eJ (y c bY bP bV:Nat) (Rt:nP) (J Jx:(nP)->List Nd->wD->Prop) (S:List Nd) (A:nP) (xs:List Nd) (W:wD) (pv:Value) (d:Nat) (q:Bool) (W':wD):Prop:=
 ∃A':nP,(∀k,A k->A' k)/\(∀k,A' k->c<=k) /\
  ((q=true /\ ∃pv',VSt y c bY bP bV A' W' pv' d/\J A' xs W'/\(∀g,pv'.ownBlock=some g->pv.ownBlock=some g\/W.heap.size<=g)/\Keeps (cI Rt A bP pv) W W')\/(q=false /\ ∃pre,pre <+: S/\Jx A' pre W'))
def VEnd (y c bY bP bV:Nat) (Rt:nP) (J Jx:(nP)->List Nd->wD->Prop) (S:List Nd) (A:nP) (xs:List Nd) (W:wD) (pv:Value) (d:Nat):Ending->wD->Prop:=λe W'=>
 ∃q,e = .returned (.bool q)/\eJ y c bY bP bV Rt J Jx S A xs W pv d q W'
def VEnd.ret {c G M N:Nat} {J Jx:(nP)->List Nd->wD->Prop} {S:List Nd} {A:nP} {U:Value} {d:Nat} {e:Ending} {W':wD} (h:VEnd n c G M N R J Jx S A xs w U d e W'):∃v,e = .returned v:=by
 obtain ⟨_,h,-⟩:=h;exact ⟨_,h⟩
def S5 {c M N:Nat} {J Jx:(nP)->List Nd->wD->Prop} {S:List Nd} {A:nP} {W:wD} {d:Nat} (w:wD):¬VEnd n c e M N R J Jx S A xs W v d .outgrown w:=λ⟨_,h,_⟩=>by cases h
def YRes (Rt:nP) (J Jx:(nP)->List Nd->wD->Prop) (A:nP) (xs:List Nd) (W:wD):Ending->wD->Prop:=λe W'=>
 Keeps (λk=>A k\/Rt k) W W'/\((e = .returned (.bool true)/\J A xs W')\/(e = .returned (.bool false)/\Jx A xs W'))
def YRes.ret {J Jx:(nP)->List Nd->wD->Prop} {A:nP} {e:Ending} {W':wD} (h:YRes R J Jx A xs w e W'):∃v,e = .returned v:=by
 obtain ⟨-,⟨h,-⟩|⟨h,-⟩⟩:=h<;>exact ⟨_,h⟩
def Ys (y c bY bP bV:Nat) (Rt:nP) (bh:∀k,Rt k->k<c) (J Jx:(nP)->List Nd->wD->Prop) (hJ:Eo c J) (S:List Nd)
 (hY:∀A pre x vs W1,(∀k,A k->c<=k/\k<W1.heap.size)->J A pre W1->Yr c W1 vs x->(pre++[x]) <+: S->YieldAt (WF none) 0 prog y vs.toArray W1 (YRes Rt J Jx A (pre++[x]) W1)) (N:Nat) :
 ∀(t:Nd) (A:nP) (pre:List Nd) (a:oA) (ca:Nat) (W:wD) (pv:Value) (d:Nat),t.size<N->t.size<=1000000->d+t.size<=2000000->t.sits Rt W a->VSt y c bY bP bV A W pv d->J A pre W->(pre++t.walk) <+: S ->
  Calls prog 176 #[t.val a ca,.pointer (some ⟨bY,0,none⟩),.pointer (some ⟨bP,0,none⟩),.pointer (some ⟨bV,0,none⟩)] W (VEnd y c bY bP bV Rt J Jx S A (pre++t.walk) W pv d):=by
 induction N with
 | zero=>intro t A pre a ca W pv d h;omega
 | succ N ih=>
  rintro ⟨k,n,s,l⟩ A pre a ca W pv d hN hM hd hs hV bw bi;have hz:(Nd.mk k n s l).size=1+AY l:=by rw [mF]
  have ct:=Co l;rw [hz] at hN hd;have hT:=fZ (SW (.mk k n s l) hM);rw [hz] at hM;obtain ⟨y0,p0,v0,⟨cs,bj,G⟩,a0,a1,a2,ap,ne,ac⟩:=hV;have l0:=ac _ a0;have l1:=ac _ a1;have l2:=ac _ a2;have HP:=fZ bi;have HS:=fZ hs;have HJ:=fZ bw;have a5:=fZ ap;have HL:=fZ ac;have IH:=fZ ih;have HY:=fZ hY;have a6:=fZ hJ;have X:=Ne W;refine Ad func176 ntmps176 rfl rfl ?_;refine cS (eB [_,_,_,_] ?_);intro b1 w2 h4 x5 p6 z7;revert y0 p0 v0 G X;refine eE x5 ?_;intro y0 p0 v0 G X;refine C1 Pa (cT (Aj ?_));refine Aj (PU (λwz=>Ext w2 wz) 5 (.pure 0 (.pure 1 (.pure 3 (.fork 2 (.fork 4 .tail .none) .none)))) mixed AR (Aa (Aa Ag)) (Bx (Bx (Jo S5))) ?_);intro w3 x3 _;refine ⟨x3,?_⟩;refine GH rfl (Ar Ac rfl rfl rfl (λwz hz=>mC (my y0 hz) rfl)) rfl (GH rfl (Ar Ac rfl rfl rfl (λwz hz=>mC (my p0 hz) rfl)) rfl (GH rfl (Ht Ac rfl rfl rfl rfl (λwz hz=>mJ (my h4 hz))) rfl ?_));refine Oz rfl rfl (AM AR rfl (PW (G.ext x3) bj Ab) (λ_ _ h=>h.ret)) rfl ?_ aFh Oy;rintro _ w4 ⟨pa,pc,⟨⟩,x4⟩;have ax:=mA x3 x4;refine ⟨ax,?_⟩;refine Oz rfl rfl (AM AR rfl (hT.out Rt a ca w4 (nr HS.out (X.trans ax))) (λ_ _ h=>h.ret)) rfl ?_ aFh Oy;rintro _ w5 ⟨ta,tc,⟨⟩,ts,x5,tk⟩;have af:=mA ax x5;refine ⟨af,?_⟩;refine S0 rfl ?_;have X5:=X.trans af
  obtain ⟨A5,ay⟩:∃A5:nP,A5=λk=>A k\/(W.heap.size<=k/\k<w5.heap.size):=⟨_,rfl⟩
  have V:∀k,A k->A5 k:=λk M=>by rw [ay];exact gA M
  have an:∀k,A5 k->c<=k/\k<w5.heap.size:=λk M=>by
   rw [ay] at M;rcases M with M|M
   . have:=HL.out k M;have:=X5.size;omega
   . omega
  have bx:A5 b1:=by rw [ay];have:=h4.lt;have:=af.size;exact gB ⟨Ab,Ab⟩
  have J5:J A5 pre w5:=a6.out A _ pre W w5 HJ.out ⟨X5.os,X5.tape,X5.output,X5.size,λk M _=>X5.block M⟩ (λk M=>(HL.out k M).1) (λk M=>(an k M).1) (λk M h=>by rw [ay] at h;exact h.elim id (λh=>by omega));have ao:pre++[Nd.mk k n s l] <+: S:=List.IsPrefix.trans ⟨BX l,by simp [Nd.walk]⟩ HP.out;refine LM rfl rfl (HY.out _ pre (.mk k n s l) [_,_] w5 an J5 ⟨pa,_,pc,ta,tc,rfl,mD ts (λb hb=>by have:=ax.size;omega),tk⟩ ao) (λ_ _ h=>h.ret) rfl ?_;rintro v w6 ⟨ag,bz⟩;refine VT (Bx (Bx (Jo S5))) rfl ?_;rcases bz with ⟨⟨⟩,a7⟩|⟨⟨⟩,a7⟩
  case inr=>
   refine eK ?_;refine xR ?_;exact ⟨false,rfl,A5,V,λk h=>(an k h).1,gB ⟨rfl,_,ao,a7⟩⟩
  have hK:Keeps (cI Rt A bP pv) W w6:=(Keeps.of_ext X5).trans (Keeps.less ag (λk M=>M.elim gB (λh=>gA (V k h.1))));have aq:∀k,A5 k -> ¬ ¬(A5 k\/Rt k):=λk h e=>e (gA h)
  have y0:=(y0.ext af).fr ag (aq _ (V _ a0));have p0:=(p0.ext af).fr ag (aq _ (V _ a1));have v0:=(v0.ext af).fr ag (aq _ (V _ a2));have h4:=(h4.ext af).fr ag (aq _ bx);have G:=(G.ext af).fr ag (λg Y=>aq _ (V _ (a5.out g Y).1));have b0:rowSits Rt w6 l a:=((En HS.out).ext X5).fr ag (λb hb e=>e (gB hb));have c5:=ag.size;have c6:=X5.size;have b2:VSt y c bY bP bV A5 w6 pv d:=⟨y0,p0,v0,⟨cs,bj,G⟩,V _ a0,V _ a1,V _ a2,λg Y=>⟨V _ (a5.out g Y).1,(a5.out g Y).2⟩,ne,λk h=>⟨(an k h).1,by have:=an k h;omega⟩⟩;refine C1 Pt (cT (AO rfl (Am (Ai (Aj (cS (C1 Pf (C1 (Pl h4) (C1 Pz (C1 Mv (cT ?_)))))))))));refine As ?_;refine AF (ι:=Nat×(nP)×Value) (λx=>[(1,.pointer (some ⟨bY,0,none⟩)),(2,.pointer (some ⟨bP,0,none⟩)),(3,.pointer (some ⟨bV,0,none⟩)),(16,.slice a l.length ca),(17,.int .i64 l.length),(18,.int .i64 x.1)])
   (λx w'=>x.1<=l.length/\VSt y c bY bP bV x.2.1 w' x.2.2 d/\J x.2.1 (pre++[.mk k n s l]++BX (l.take x.1)) w'/\rowSits Rt w' l a/\Keeps (cI Rt A bP pv) W w'/\(∀g,x.2.2.ownBlock=some g->pv.ownBlock=some g\/W.heap.size<=g)/\(∀k,A k->x.2.1 k))
   (λx=>l.length-x.1) (0,A5,pv) sB ⟨gI _,b2,by simpa [BX] using a7,b0,hK,λg Y=>gA Y,V⟩ ?_
  rintro ⟨j,B,qv⟩ w7 ⟨hj,hV,az,U,a8,a9,ar⟩;simp only at hj hV az U a8 a9 ar;by_cases ac:j<l.length
  . obtain ⟨y0,p0,v0,⟨ds,b3,G⟩,a0,a1,a2,ap,-,au⟩:=hV;obtain ⟨kb,ko,rfl,kS,bk⟩:=BJ U (by intro e;subst e;simp at ac);obtain ⟨xa,xc,rx,sx⟩:=bk j l[j] (fY ac);have c7:=CA (gK ac);have ba:=Jp ac;have b4:=PV ac;have HB:=fZ au;have al:=fZ ap;have HR:=fZ bh;have l0:=au _ a0;have l1:=au _ a1;have l2:=au _ a2;have c8:=bh _ kS;have b5:=fZ az;have bl:=fZ a8;have bb:=fZ a9;have am:∀g,qv.ownBlock=some g->c<=g/\g<w7.heap.size:=λg Y=>au _ (ap g Y).1
    generalize l[j]=x at *;have X7:=mx (λk=>k=bP\/qv.ownBlock=some k) w7;refine eK ?_;refine eA [_,_,_,_] ?_;intro b6 c9 b7 b8 da db;revert y0 p0 v0 G U rx sx X7;refine eE b8 ?_;intro y0 p0 v0 G U rx sx X7;refine C1 Pa (eS [_,_,_,_] b7 ?_);intro dc ad ae cu;revert y0 p0 v0;refine eF ae ?_;intro y0 p0 v0;have G:=mO G ae (λg Y e=>by have:=am _ Y;omega);have U:=mW U ae (λb hb h=>by have:=HR.out _ hb;omega);have rx:=mN rx ae (by simp only;omega);have sx:=mr sx ae (λb hb h=>by have:=HR.out _ hb;omega);have X7:=X7.fr ae Ab;refine eK ?_;refine Az (xS [_]) rfl ?_ aFh;rintro _ cv ⟨cw,rfl,ak,cx⟩;have ah:=ak.blk;dsimp only at ah;have bm:=ak.ext;have cy:=ak.pos;have cz:=ak.size;revert ad y0 p0 v0 G U rx sx X7;refine eE bm ?_;intro ad y0 p0 v0 G U rx sx X7;refine RN Ac Ca rfl rfl rfl rfl AR rfl rfl Af (mJ Af) rfl Ab Ab rfl ?_;rintro ai Z c0 av a3 c1 O;have c2:=O.size;have ah:=mu ah O (λh=>by have:=am _ h;omega);have ad:=mu ad O (λh=>by have:=am _ h;omega);have y0:=mu y0 O (λh=>(al.out _ h).2.1 rfl);have p0:=mu p0 O (λh=>(al.out _ h).2.2.1 rfl);have v0:=mu v0 O (λh=>(al.out _ h).2.2.2 rfl);have U:=mW U O (λb hb h=>by have:=am _ h;have:=HR.out _ hb;omega);have sx:=mr sx O (λb hb h=>by have:=am _ h;have:=HR.out _ hb;omega);have X7:=mB X7 O (λk M=>gA (gB M));refine eS [_] p0 ?_;intro aa bn ab c3;have av:=mO av ab (λk M e=>by (obtain rfl:=gJ (show some ai=some k from M);rcases a3 with h|h;exact (al.out _ h).2.2.1 e;omega));revert ah ad;refine eF ab ?_;intro ah ad;have y0:=mu y0 ab (λh=>ne.1 h);have v0:=mu v0 ab (λh=>ne.2 h);have U:=mW U ab (λb hb h=>by have:=HR.out _ hb;omega);have sx:=mr sx ab (λb hb h=>by have:=HR.out _ hb;omega);have X7:=X7.fr ab Ab;refine cT (Aj ?_)
    have dd:=X7.size;obtain ⟨D,hD⟩:∃D:nP,D=λk=>B k\/(w7.heap.size<=k/\k<aa.heap.size):=⟨_,rfl⟩
    have aj:∀k,B k->D k:=λk M=>by rw [hD];exact gA M
    have bo:∀k,D k->c<=k/\k<aa.heap.size:=λk M=>by
     rw [hD] at M;rcases M with M|M
     . have:=HB.out k M;omega
     . omega
    have G:∀g,(iA (some ⟨ai,0,none⟩) (d+1) Z).ownBlock=some g->D g/\g≠bY/\g≠bP/\g≠bV/\(qv.ownBlock=some g\/w7.heap.size<=g):=λg Y=>by
     obtain rfl:=gJ (show some ai=some g from Y);rcases a3 with h|h
     . have:=al.out _ h;exact ⟨aj _ this.1,this.2.1,this.2.2.1,this.2.2.2,gA h⟩
     . exact ⟨by rw [hD];exact gB ⟨Ab,Ab⟩,Ab,Ab,Ab,gB Ab⟩
    have b9:VSt y c bY bP bV D aa (.slice (some ⟨ai,0,none⟩) (d+1) Z) (d+1):=⟨y0,bn,v0,⟨_,by rw [lJ,b3];rfl,av⟩,aj _ a0,aj _ a1,aj _ a2,λg Y=>⟨(G g Y).1,(G g Y).2.1,(G g Y).2.2.1,(G g Y).2.2.2.1⟩,ne,bo⟩;have J8:J D (pre++[Nd.mk k n s l]++BX (List.take j l)) aa:=a6.out B D _ w7 aa b5.out (X7.weaken (λk M=>M.elim (λe=>e▸a1) (λe=>(al.out _ e).1))) (λk M=>(HB.out k M).1) (λk M=>(bo k M).1) (λk M h=>by rw [hD] at h;exact h.elim id (λh=>by omega));have bc:pre++[Nd.mk k n s l]++BX (List.take j l)++x.walk <+: S:=by
     refine List.IsPrefix.trans ?_ HP.out;rw [Nd.walk,<-lE,iG,iG,iG];exact (List.prefix_append_right_inj _).2 ((List.prefix_append_right_inj _).2 b4)
    have HX:=fZ (IH.out x D _ xa xc aa _ (d+1) Ab Ab Ab sx b9 J8 bc);have de:D b6:=by rw [hD];exact gB ⟨Ab,Ab⟩
    have cb:Keeps (cI Rt A bP pv) W aa:=bl.out.trans (Keeps.of_fr X7 (λk M h=>by
     rcases M with M|⟨h1,h2,h3⟩
     . rcases h with h|h
       . have:=HR.out _ M;omega
       . have:=HR.out _ M;have:=am _ h;omega
     . rcases h with h|h
       . exact h2 h
       . rcases bb.out _ h with h|h
         . exact h3 h
         . have:=HL.out _ h1;omega))
    have df:=bl.out.size;refine eK ?_;refine Az (Bb (fi:=[]) (ca:=[.pointer (some ⟨bY,0,none⟩),.pointer (some ⟨bP,0,none⟩),.pointer (some ⟨bV,0,none⟩)]) AR rfl rfl HX.out (λ_ _ h=>h.ret)) rfl ?_ aFh;rintro _ bp ⟨dg,⟨⟩,cc⟩;refine C1 Pt (cT ?_);obtain ⟨E,bq,bd,⟨rfl,cd,ce,J9,cf,be⟩|⟨rfl,br,cg,ch⟩⟩:=cc
    . have ci:∀k,cI Rt A bP pv k->cI Rt D bP (.slice (some ⟨ai,0,none⟩) (d+1) Z) k:=λk M=>by
       rcases M with M|⟨h1,h2,h3⟩
       . exact gA M
       . refine gB ⟨aj _ (ar _ h1),h2,λe=>?_⟩;rcases (G _ e).2.2.2.2 with h|h
         . rcases bb.out _ h with h|h
           . exact h3 h
           . have:=HL.out _ h1;omega
         . have:=HL.out _ h1;omega
      have bs:=fZ (cb.trans (be.less ci));have bf:=U.fr be (λb hb e=>e (gA hb));have dh:=be.size;have bt:∀g,cd.ownBlock=some g->pv.ownBlock=some g\/W.heap.size<=g:=λg Y=>by
       rcases cf g Y with h|h
       . rcases (G g h).2.2.2.2 with h|h
         . exact bb.out g h
         . exact gB Ab
       . exact gB Ab
      obtain ⟨y0,p0,v0,⟨di,bu,G⟩,cj,bv,ck,ap,-,cl⟩:=ce;rcases G.row with ⟨-,h0,-⟩|⟨g',a4,rfl,-,-,-⟩
      . omega
      have cm:=fZ ap;have cn:g'≠bP:=(ap g' rfl).2.2.1;have c4:d+1<=a4:=OwnF.le (B:=0) ⟨gI _,(G.below g' (λk M=>by obtain rfl:=gJ (show some g'=some k from M);exact gP _))⟩;have hm:((d+1:Nat):Int)-1=(d:Int):=by omega
      have bg:=G.shrink (m:=d) Ab;have HQ:=fZ bt;have HE:=fZ cl;have co:=fZ J9;have X9:=mx (λk=>k=bP) bp;refine eK ?_;refine C1 (AL rfl rfl (gG _ Ab)) (C1 (Dn Ac rfl rfl rfl rfl hm Ab) (eS [_] p0 ?_));intro cp cq aw dk;have bf:=mW bf aw (λb hb h=>by have:=HR.out _ hb;omega);have y0:=mu y0 aw (λh=>ne.1 h);have v0:=mu v0 aw (λh=>ne.2 h);have bg:=mO bg aw (λk M e=>cn ((gJ (show some g'=some k from M)).trans e));have X9:=X9.fr aw Ab;refine Al (Ah (Ai (Ak (C1 V7 (C1 Mv (Al ?_))))));refine Av (j+1,E,.slice (some ⟨g',0,none⟩) d a4) sB ⟨by simp only;omega,⟨y0,cq,v0,⟨_,iJ.2 (λx hx=>iJ.1 bu x (jO hx)),bg⟩,cj,bv,ck,λg Y=>cm.out g Y,ne,λk h=>⟨(HE.out k h).1,by have:=(HE.out k h).2;omega⟩⟩,?_,bf,bs.out.trans (Keeps.of_fr X9 (λk M e=>?_)),λg Y=>HQ.out g Y,λk h=>bq _ (aj _ (ar _ h))⟩ (by simp only;omega)
      . simp only;rw [ba,<-iG];exact a6.out E E _ bp cp co.out (X9.weaken (λk e=>e▸bv)) bd bd (λ_ _ h=>h)
      . rcases M with M|M
        . have:=HR.out _ M;omega
        . exact M.2.1 e
    . refine eK ?_;refine xR ?_;exact ⟨false,rfl,E,λk h=>bq k (aj k (ar k h)),bd,gB ⟨rfl,br,cg,ch⟩⟩
  . obtain rfl:j=l.length:=by omega
    rw [gL] at az;have cr:J B (pre++(Nd.mk k n s l).walk) w7:=by rw [Nd.walk,<-lE,<-iG];exact az
    refine eK ?_;refine xR ?_;exact ⟨true,rfl,B,ar,λk h=>(hV.lt k h).1,gA ⟨rfl,qv,hV,cr,a9,a8⟩⟩
structure OwnQ {α:Type} (sh:Shape α) (w:wD) (R:nP) (B e:Nat) (v:Value) (xs:List α):Prop where
 ex:∃css:List lV,Own w B e sh.sz v xs.length css.flatten/\css.length=xs.length /\ ∀(i:Nat) (x:α) (cs:lV),xs[i]? = some x->css[i]? = some cs->sh.rep w (λb=>R b/\v.ownBlock≠some b) x cs
section
variable {α:Type} {sh:Shape α} {R':nP} {B:Nat} {w':wD} {xs:List α}
def OwnQ.nil:OwnQ sh w R B e (.slice none 0 0) []:=⟨⟨[],nm,rfl,AQ⟩⟩
def OwnQ.ge (h:OwnQ sh w R B e v xs) {k:Nat} (G:v.ownBlock=some k):B<=k:=by
 obtain ⟨M,N,-⟩:=h.ex;exact N.ge G
def OwnQ.lt (h:OwnQ sh w R B e v xs) {k:Nat} (G:v.ownBlock=some k):k<w.heap.size:=by
 obtain ⟨M,N,-⟩:=h.ex;exact (N.blk G).2
def OwnQ.ext (h:OwnQ sh w R B e v xs) (x:Ext w w'):OwnQ sh w' R B e v xs:=by
 obtain ⟨G,M,N,O⟩:=h.ex;exact ⟨G,M.ext x,N,λi y cs U V=>sh.mono (O i y cs U V) aFh (λb o u _ X=>x.keep X)⟩
instance  : LfE w w' (OwnQ sh w R B e v xs) (OwnQ sh w' R B e v xs):=⟨λx h=>Bk.OwnQ.ext h x⟩
def OwnQ.fr {S:nP} (h:OwnQ sh w R B e v xs) (x:Fr S w w') (N:∀k,S k -> ¬R k/\v.ownBlock≠some k):OwnQ sh w' R B e v xs:=by
 obtain ⟨G,O,U,V⟩:=h.ex;exact ⟨G,O.fr x (λk X M=>(N k M).2 X),U,λi y cs Y Z=>sh.mono (V i y cs Y Z) aFh (λb o u hb hu=>x.keep (λM=>(N b M).1 hb.1) hu)⟩
instance {S:nP}:LfF S w w' (OwnQ sh w R B e v xs) (∀k,S k -> ¬R k/\v.ownBlock≠some k) (OwnQ sh w' R B e v xs):=⟨λx s h=>Bk.OwnQ.fr h x s⟩
def OwnQ.ltR (h:OwnQ sh w R B e v xs):OwnQ sh w (λb=>R b/\b<w.heap.size) B e v xs:=by
 obtain ⟨G,N,O,U⟩:=h.ex;exact ⟨G,N,O,λi y cs V X=>sh.mono (sh.lt (U i y cs V X)) (λb M=>⟨⟨M.1.1,M.2⟩,M.1.2⟩) (λ_ _ _ _ Y=>Y)⟩
def OwnQ.below (h:OwnQ sh w R B e v xs) (O:∀k,v.ownBlock=some k->n<=k):OwnQ sh w R n e v xs:=by
 obtain ⟨G,U,V,X⟩:=h.ex;refine ⟨G,?_,V,X⟩;obtain ⟨N,Y|⟨g,cap,cur,rfl,k3,Z⟩⟩:=U
 . exact ⟨N,gA Y⟩
 . exact ⟨N,gB ⟨g,cap,cur,rfl,O g rfl,Z⟩⟩
def cX (sh:Shape α) (w:wD) (R:nP) (B:Nat) (e:TypeId) (v:Value) (ys:List α):Option Value->wD->Prop
 | some v',w'=> ∃g cap,v' = .slice (some ⟨g,0,none⟩) ys.length cap/\OwnQ sh w' R B e v' ys/\(v.ownBlock=some g\/w.heap.size<=g)/\g<w'.heap.size/\Fr (λk=>v.ownBlock=some k) w w'
 | none,_=>False
def E4 {tab:Tab} {zt:Ee} {x y:Operand} {t sz1 cap:Nat} {sE:Sk} {zs:lV} {z:α} {p:Addr} (T:TabOk P tab) (Z:Cj P zt) (ht:AB tab t=some (.slice e,sz1)) (hE:AB tab e=some (sE,sh.sz)) (hz:CC zt e=some zs) (hzl:zs.length=sh.sz)
 (hby:Dk P e=true) (hsz:iC 0 sh.sz=true) (hx:ev l x=some v) (hy:ev l y=some (.slice (some p) 1 cap)) (hown:OwnQ sh w R' B e v xs) (hw:∀b,R' b->R b) (hr:Row w p cs) (hrep:sh.rep w (λb=>R b/\v.ownBlock≠some b) z cs) (hlen:xs.length<=10000000000) (hB:B<=w.heap.size) :
 BG P n l (.call ⟨.builtin .append,#[x,y],#[t,t]⟩) ty w (cX sh w R B e v (xs++[z])):=by
 obtain ⟨css,h1,h2,h3'⟩:=hown.ex;have h3:∀(i:Nat) (x:α) (cs:lV),xs[i]? = some x->css[i]? = some cs->sh.rep w (λb=>R b/\v.ownBlock≠some b) x cs:=λi y cs hy hc=>sh.mono (h3' i y cs hy hc) (λb hb=>⟨hw b hb.1,hb.2⟩) (λ_ _ _ _ hu=>hu)
 have hd:=DV (P:=P) (n:=n) (l:=l) (ty:=ty) T Z ht hE hz hzl hby hsz hx hy h1 hr (by rw [sh.len hrep];simp) (sh.one hrep) Ab Ab hB;unfold BG at hd ⊢;intro a dst pos after g next Q ha hn c;refine hd a dst pos after g next Q ha (λv' w' hG=>?_) (λw' hG=>hG.elim);obtain ⟨g1,g2,g,cap',g3,g4⟩:=hG;have hg:=g1.blk (k:=g) (by rw [g3];rfl);refine hn v' w' ⟨g,cap',by rw [g3];simp,⟨css++[cs],?_,by simp [h2],λi y ds hy hc=>?_⟩,g4,hg.2,g2⟩
 . have e1:(css++[cs]).flatten=css.flatten++cs:=by simp
   have e2:(xs++[z]).length=xs.length+1:=by simp
   rw [e1,e2];exact g1
 . have key:sh.rep w (λb=>R b/\v.ownBlock≠some b) y ds:=by
    by_cases hi:i<xs.length
    . rw [gN hi] at hy;rw [gN Ab] at hc;exact h3 i y ds hy hc
    . have hil:i<(xs++[z]).length:=by
       rcases gQ i (xs++[z]).length with h|h
       . exact h
       . rw [gM h] at hy;cases hy
      simp only [gR,gH,iM] at hil;have hi':i=xs.length:=by omega
      subst hi';rw [gU (gP _)] at hy;rw [gU Ab] at hc;simp only [kp,gX,gE] at hy;rw [h2] at hc;simp only [kp,gX,gE] at hc;subst hy hc;exact hrep
   refine sh.mono (sh.lt key) (λb hb=>⟨hb.1.1,λe=>?_⟩) (λb o u hb hu=>g2.keep hb.1.2 hu);rw [g3] at e;simp only [kw,gE] at e;subst e;rcases g4 with h|h
   . exact hb.1.2 h
   . omega
def OwnQ.rows (h:OwnQ sh w R B e v xs) (hx:xs≠[]):∃g cap,v = .slice (some ⟨g,0,none⟩) xs.length cap/\B<=g/\g<w.heap.size /\ ∀(i:Nat) (x:α),xs[i]? = some x -> ∃cs,Row w ⟨g,i*sh.sz,none⟩ cs/\sh.rep w R x cs:=by
 obtain ⟨G,V,h2,X⟩:=h.ex;have hM:OwnM sh w R B e v xs:=⟨G,V,h2,λi y cs hy hc=>sh.mono (X i y cs hy hc) (λb O=>⟨gA O.1,O.2⟩) (λ_ _ _ _ Y=>Y)⟩
 rcases V.row with ⟨rfl,hn,-⟩|⟨g,cap,rfl,hg,ad,hr⟩
 . exact absurd (List.length_eq_zero_iff.1 hn) hx
 . refine ⟨g,cap,rfl,hg,(V.blk (k:=g) rfl).2,λi x U=>?_⟩;obtain ⟨g',ac,hv,-,M⟩:=hM.rows hx;simp only [iF,gE,kL,and_true,true_and] at hv;obtain ⟨rfl,rfl⟩:=hv;have ae:i<xs.length:=by
    rcases gQ i xs.length with h|h
    . exact h
    . rw [gM h] at U;cases U
   have N:∀cs∈G,cs.length=sh.sz:=λcs Z=>by
    obtain ⟨j,hj,rfl⟩:=List.mem_iff_getElem.1 Z;have aa:xs[j]? = some xs[j]:=fY Ab;exact sh.len (X j _ _ aa (fY hj))
   have ab:G[i]? = some (G[i]'(by omega)):=fY Ab;obtain ⟨cs,k1,k2⟩:=M i x U;refine ⟨G[i]'(by omega),?_,sh.mono (X i x _ U ab) (λb O=>O.1) (λ_ _ _ _ Y=>Y)⟩;obtain ⟨f1,f2⟩:=Fq N (j:=i) Ab;rw [f1] at hr;have hs:=hr.sub (i*sh.sz) sh.sz;rw [iR,iG,List.drop_left' f2,List.take_left' (N _ (gK _))] at hs;exact hs
end
section
variable {tab:Tab} {zt:Ee} {α:Type} {sh:Shape α}
def C9 {ops:Array Oper} {Q:Exit->Act->wD->Prop} {rest:List Oper} {d:Nat} {pos:String} {after:Array Edge} {x y:Operand} {t U B cap:Nat} {R':nP} {sE:Sk} {zs:lV} {xs:List α} {z:α} {p:Addr} (T:TabOk P tab) (Z:Cj P zt) (ht:AB tab t=some (.slice e,U)) (hE:AB tab e=some (sE,sh.sz)) (hz:CC zt e=some zs) (V:zs.length=sh.sz)
 (X:Dk P e=true) (Y:iC 0 sh.sz=true) (hx:ev l x=some v) (hy:ev l y=some (.slice (some p) 1 cap)) (M:OwnQ sh w R' B e v xs) (hw:∀b,R' b->R b) (hr:Row w p cs) (N:sh.rep w (λb=>R b/\v.ownBlock≠some b) z cs) (O:xs.length<=10000000000) (hB:B<=w.heap.size) (hd:iC d n=true)
 (k:∀g G w1,OwnQ sh w1 R B e (.slice (some ⟨g,0,none⟩) (xs++[z]).length G) (xs++[z])->(v.ownBlock=some g\/w.heap.size<=g)->g<w1.heap.size->Fr (λk=>v.ownBlock=some k) w w1->LW P n ops Q rest ((d,.slice (some ⟨g,0,none⟩) (xs++[z]).length G)::l) w1) :
 LW P n ops Q (⟨some d,.call ⟨.builtin .append,#[x,y],#[t,t]⟩,ty,pos,after,none⟩::rest) l w:=
 Az (E4 T Z ht hE hz V X Y hx hy M hw hr N O hB) hd (λv w1 ⟨g,cap,h,ho,h1,h2,hf⟩=>by subst h;exact k g cap w1 ho h1 h2 hf) aFh
end
section
variable {tab:Tab} {zt:Ee}
def BW {S:wD->Prop} {f:Fn} {cs:List Operand} {vs:lV} (h:evs l cs=some vs):Bm P n l S (.makeFunc f #[] cs.toArray) ty (.func f #[] vs.toArray):=by
 unfold Bm;intro a w G pos after g M _;have e:=M.evs h;simp [execOp,Instr.makeFunc,e]
end
section
variable {ops:Array Oper} {Q:Exit->Act->wD->Prop} {rest:List Oper} {tab:Tab} {pos:String} {after:Array Edge}
end
def VU (kvs:List (lB×Value)) (k:lB) (v:Value) (s:lB):Ef (F8 kvs k v) s=if s=k then some v else Ef kvs s:=by
 induction kvs with
 | nil=>
  by_cases h:s=k
  . subst h;simp [F8,Ef]
  . simp [F8,Ef,h]
 | cons p r O=>
  obtain ⟨N,U⟩:=p;simp only [F8];by_cases M:k=N
  . subst M;simp only [if_true,Ef];by_cases G:s=k
    . rw [AT G,AT G]
    . rw [AC G,AC G,AC G]
  . simp only [AC M,Ef,O];by_cases G:s=N
    . subst G;rw [AT rfl,AC (λe=>M e.symm),AT rfl]
    . rw [AC G,AC G]
def Yt (t:Nd) (hz:t.size<=1000000) (Rt:nP) (br:Nat) (a:oA) (ca:Nat) (w:wD) (ab:∀k,Rt k->k<w.heap.size) (ac:Rt br) (O:Blk w br (t.cells a ca)) (G:t.sits Rt w a) :
 IterOk prog 175 [.pointer (some ⟨br,0,none⟩)] Yr Rt t.walk w:=by
 intro y J Jx W hK hJ ak hY h0;have ad:=hK.size;have al:=ab _ ac;have O:=O.fr hK (λe=>e ac);have G:=G.fr hK (λb hb e=>e hb);have ae:∀k,Rt k->k<W.heap.size:=λk U=>jN (ab k U) ad
 have HY:=fZ hY;have HJ:=fZ hJ;have H0:=fZ h0;have HR:=fZ ae;have X:=Ne W;show Calls _ _ #[.func (.yield y) #[] #[],.pointer (some ⟨br,0,none⟩)] W _;refine Ad func175 ntmps175 rfl rfl (cS (eB [_] ?_));intro b1 w2 V x5 p6 z7;revert O G X;refine eE x5 ?_;intro O G X;refine cN (eA [_] ?_);intro b8 w9 M af am an;revert V O G X;refine eE af ?_;intro V O G X;refine cN (eA [_] ?_);intro Y ao ag ah ap aq;revert M V O G X;refine eE ah ?_;intro M V O G X;refine cN (C1 (BW rfl) (eS [_] ag ?_));intro N ai Z ar;revert M V O;refine eF Z ?_;intro M V O;have G:=mr G Z (λb hb e=>by have:=HR.out _ hb;omega);have X:=X.fr Z Ab;refine eK ?_;obtain ⟨A,hA⟩:∃A:nP,A=λk=>W.heap.size<=k/\k<W.heap.size+3:=⟨_,rfl⟩
 have aa:∀k,A k->W.heap.size<=k/\k<N.heap.size:=λk U=>by rw [hA] at U;omega
 have J1:J A [] N:=HJ.out (λ_=>False) A [] W N H0.out ⟨X.os,X.tape,X.output,X.size,λk U _=>X.block U⟩ (λ_ h=>h.elim) (λk U=>(aa k U).1) (λk U h=>by have:=aa k h;omega);have ha:∀k,W.heap.size<=k->k<W.heap.size+3->A k:=λk h1 h2=>by rw [hA];exact ⟨h1,h2⟩
 have hV:VSt y W.heap.size b1 b8 Y A N (.slice none 0 0) 0:=⟨V,M,ai,⟨[],rfl,nm⟩,ha _ Ab Ab,ha _ Ab Ab,ha _ Ab Ab,λg hg=>by simp [kw] at hg,⟨Ab,Ab⟩,aa⟩;have HX:=fZ (Ys y W.heap.size b1 b8 Y Rt HR.out J Jx HJ.out t.walk HY.out (t.size+1) t A [] a ca N (.slice none 0 0) 0 Ab hz Ab G hV J1 (List.prefix_refl _));refine Az (Bb (fi:=[]) (ca:=[.pointer (some ⟨b1,0,none⟩),.pointer (some ⟨b8,0,none⟩),.pointer (some ⟨Y,0,none⟩)]) AR rfl rfl HX.out (λ_ _ h=>h.ret)) rfl ?_ aFh;rintro _ au ⟨av,⟨⟩,aj⟩;refine Al (Bi rfl ?_);obtain ⟨A',-,hc,⟨rfl,pv,-,hj,-⟩|⟨rfl,pre,hp,hj⟩⟩:=aj
 . exact ⟨⟨_,rfl⟩,A',hc,gA hj⟩
 . exact ⟨⟨_,rfl⟩,A',hc,gB ⟨pre,hp,hj⟩⟩
def WalkR (t:Nd) (w:wD):Ending->wD->Prop:=λe w'=> ∃br,e = .returned (.func (.func 175) #[] #[.pointer (some ⟨br,0,none⟩)])/\IterOk prog 175 [.pointer (some ⟨br,0,none⟩)] Yr (λk=>w.heap.size<=k/\k<w'.heap.size) t.walk w'/\Ext w w'
def WalkR.ret {t:Nd} {e:Ending} {w':wD} (h:WalkR t w e w'):∃v,e = .returned v:=by
 obtain ⟨_,h,-⟩:=h;exact ⟨_,h⟩
def VV (t:Nd) (O:t.size<=1000000) (S:nP) (a:oA) (c:Nat) (w:wD) (U:t.sits S w a):Calls prog 148 #[t.val a c] w (WalkR t w):=by
 have X:=Ne w;refine Ad func148 ntmps148 rfl rfl (cS (eB [_,_,_,_] ?_));intro b1 w2 h4 V p6 z7;revert U X;refine eE V ?_;intro U X;refine kQ (Jl _ O _ _ _ _ Af) ?_;rintro _ Y ⟨a8,c9,⟨⟩,h,G⟩;have Z:=G.size;have X:=X.ext G;refine xA [_,_,_,_] ?_;intro aa ab M;refine eI [_,_,_,_] M ?_;intro ac ad N ae af;revert h X;refine eE N ?_;intro h X;refine cN (C1 (BW rfl) (kR ?_));exact ⟨_,rfl,Yt t O _ _ _ _ _ (λk hk=>hk.2) ⟨Ab,Ab⟩ Af (mD Af (λb hb=>⟨Ab,Ab⟩)),X⟩
end Bk
namespace Bk
open Go Go.RowKit
def EnvD (D:List Deferred) (n:Nat) (l:Sl) (a:Act):Prop:=Env n l { a with defers:=[] }/\a.defers=D
def cJ (P:Program) (D:List Deferred) (n:Nat) (c:Code) (Q:Exit->Act->wD->Prop) (l:Sl) (w:wD):Prop:= ∀a,EnvD D n l a->c.wp P Q a w
def RO (P:Program) (D:List Deferred) (n:Nat) (ops:Array Oper) (Q:Exit->Act->wD->Prop) (os:List Oper) (l:Sl) (w:wD):Prop:= ∀a,EnvD D n l a->wpList P ops Q os a w
def Jq (D:List Deferred) (n:Nat) (Q:Exit->Act->wD->Prop) (e:Exit) (l:Sl) (w:wD):Prop:= ∀a,EnvD D n l a->Q e a w
def EnvD.ev {D:List Deferred} {n:Nat} {l:Sl} {a:Act} (h:EnvD D n l a) {x:Operand} {v:Value} (G:ev l x=some v):a.eval x=v:=h.1.ev G
def EnvD.put {D:List Deferred} {n:Nat} {l:Sl} {a:Act} (h:EnvD D n l a) {d:Nat} (G:iC d n=true) (v:Value):EnvD D n ((d,v)::l) (a.put (some d) v):=⟨h.1.put G v,h.2⟩
section code
variable {P:Program} {D:List Deferred} {n:Nat} {Q:Exit->Act->wD->Prop} {l:Sl} {w:wD} {ops:Array Oper} {rest:List Oper} {d:Nat} {ty:TypeId} {pos:String} {after:Array Edge}
def H7 {x y:Code} (h:cJ P D n x (Exit.then (y.wp P Q) Q) l w):cJ P D n (.seq x y) Q l w:=λa G=>wp_seq (h a G)
def Dw {y:Code} (h:cJ P D n y Q l w):Jq D n (Exit.then (y.wp P Q) Q) .normal l w:=h
def Ep {M:Nat} {G:List Oper} (h:RO P D n G.toArray Q G l w):cJ P D n (.region M G.toArray false) Q l w:=λa N=>wp_region_lit (h a N)
def Jr (h:Jq D n Q .ret l w):cJ P D n .ret Q l w:=λa G=>wp_ret (h a G)
def GI (h:Jq D n Q .normal l w):RO P D n ops Q [] l w:=h
def Fs {op:Op} {v:Value} (h:Bm P n l (· = w) op ty v) (M:iC d n=true) (k:RO P D n ops Q rest ((d,v)::l) w):RO P D n ops Q (⟨some d,op,ty,pos,after,none⟩::rest) l w:=λa G=>by
 unfold wpList;rw [AT (Bd rfl)];left;have e:(execOp a.eval ⟨some d,op,ty,pos,after,none⟩).run P w = .ok (.value v) w:=by
  unfold Bm at h;have:=h { a with defers:=[] } w (some d) pos after none G.1 rfl;exact this
 unfold km;rw [e];exact k _ (G.put M v)
def JX {tab:Tab} {x y:Operand} {t b:Nat} {s:Sk} {v u:Value} (T:TabOk P tab) (V:AB tab t=some (s,1)) (X:ev l x=some (.pointer (some ⟨b,0,none⟩))) (Y:ev l y=some v) (N:v.cells = #[v]) (Z:mG v=true) (hb:Blk w b [u])
 (k:∀w1,Blk w1 b [v]->Fr (· = b) w w1->RO P D n ops Q rest l w1):RO P D n ops Q (⟨none,.store t x y,ty,pos,after,none⟩::rest) l w:=λa h=>by
 obtain ⟨w1,O,U⟩:=Fi (P:=P) [v] w b 0 0 [u] hb AQ (by simp [Z]);have e:(execOp a.eval ⟨none,.store t x y,ty,pos,after,none⟩).run P w = .ok .skip w1:=by
  have G:v.cells.toList=[v]:=by rw [N]
  have M:v.cells.size=1:=by rw [N];rfl
  simp only [execOp,h.ev X,h.ev Y,Instr.storeAt,Instr.sureAddr,gO,hH,gF,storeVar,B0 (T _ _ _ V),M,G,O];simp only [ne_eq,not_true,if_false,gO,hH,gF,O]
 unfold wpList;rw [AT (Bd rfl)];left;unfold km;rw [e];exact k w1 U.blk U.fr _ h
end code
def Gf {P:Program} {f:FuncId} {fn:Func} {c:Code} {args:lV} {n:Nat} {w:wD} {R:Ending->wD->Prop}
 (M:P.funcs[f]? = some fn) (X:fn.ntmps=n) (N:fn.body=some c) (O:jW args.length n=true) (h:CW P n c (bodyPostM (WF none) 0 P fn R) (Gr 0 args) w):Calls P f args.toArray w R:=by
 refine wf_calls.1 (callsIn_of_wp_marks (F:=WF none) (n:=0) M N trivial (cW h _ ?_));have U:args.length<=n:=by simpa using O
 refine ⟨by simp;omega,rfl,λd v V=>?_⟩;obtain ⟨-,G⟩:=F6 d v args 0 V;simp only [kP] at G;have:d<args.length:=by
  rcases gQ d args.length with h|h
  . exact h
  . rw [gM h] at G;cases G
 rw [fY this] at G;simp only [gE] at G;simp [lD,this,G]
def GJ (b:Nat):List Deferred:=[{ target:=.collected b,args:= #[] }]
def PX {P:Program} {fn:Func} {tab:Tab} {t ty sz b:Nat} {s:Sk} {v:Value} {tmps:Array Value} {w:wD} (h:fn.results = #[.cell t ty]) (T:TabOk P tab) (M:AB tab ty=some (s,sz)) (N:s.agg=false) (G:tmps.getD t undef = .pointer (some ⟨b,0,none⟩)) (O:w.cell? ⟨b,0,none⟩=some v):(results fn tmps).run P w = .ok v w:=by
 have e:(loadVar ty ⟨b,0,none⟩).run P w = .ok v w:=by
  simp only [gO,hH,gF,loadVar,Cq (T _ _ _ M),N];simp [load,kV,O]
 simp only [jC] at G;simp [results,h,G,e,asAddr]
def Ia {w:wD} {m:Nat} {o:Obj} (G:Obj) (h:w.heap[m]? = some o):Fr (· = m) w (w.putObj m G):=⟨rfl,rfl,rfl,AQ,λk _ M=>jF M⟩
def PY {P:Program} {fn:Func} {R:Ending->wD->Prop} {n m t:Nat} {l:Sl} {w:wD} {v:Value} (G:w.heap[m]? = some (.deferred (some []))) (h:fn.results = #[.tmp t]) (N:look l t=some v) (O:∀w',Fr (· = m) w w'->R (.returned v) w'):Jq (GJ m) n (bodyPostM (WF none) 0 P fn R) .ret l w:=λa M=>by
 show LeavesInM _ _ _ _ _ _ a.defers _ _;rw [M.2];refine ⟨AQ,.inl ⟨_,_,rfl,run_takeDeferred G,_,results_tmp h _ _ _,?_⟩⟩;rw [show a.tmps.getD t undef=v from M.1.has t v N];exact O _ (Ia _ G)
def PZ {P:Program} {fn:Func} {R:Ending->wD->Prop} {n m t ty sz b:Nat} {s:Sk} {tab:Tab} {l:Sl} {w:wD} {v:Value} (M:w.heap[m]? = some (.deferred (some []))) (h:fn.results = #[.cell t ty]) (T:TabOk P tab) (U:AB tab ty=some (s,sz)) (V:s.agg=false) (X:look l t=some (.pointer (some ⟨b,0,none⟩))) (G:Blk w b [v]) (Y:∀w',Fr (· = m) w w'->R (.returned v) w'):Jq (GJ m) n (bodyPostM (WF none) 0 P fn R) .ret l w:=λa O=>by
 show LeavesInM _ _ _ _ _ _ a.defers _ _;rw [O.2];have N:b≠m:=λe=>by
  obtain ⟨ty,G⟩:=G;rw [e,M] at G;cases G
 exact ⟨AQ,.inl ⟨_,_,rfl,run_takeDeferred M,_,PX h T U V (O.1.has t _ X) (mC (G.fr (Ia _ M) N) rfl),Y _ (Ia _ M)⟩⟩
def Ib (P:Program) (r:Option Nat) (Kp:nP) (m:Nat) (body:Code) (Q:wD->Exit->Act->wD->Prop) (W:wD):Act->wD->Prop:=λa₁ W₁=>Keeps Kp W W₁ /\ ∀W₂,Fr (· = m) W₁ W₂->body.wpIn (WF r) 0 P (Q W₂) a₁ W₂
def Ic {P:Program} {n:Nat} {r:Option Nat} {Kp:nP} {m:Nat} {h:Code} {Q:wD->Exit->Act->wD->Prop} {W:wD} {G:Exit->Act->wD->Prop} {l:Sl} {w:wD} (N:Keeps Kp W w) (O:∀M,Fr (· = m) w M->CR P n r h (Q M) l M):QW n (Exit.then (Ib P r Kp m h Q W) G) .normal l w:=by
 unfold QW;exact λa U=>⟨N,λM V=>O M V a U⟩
def Gg {K:Act->wD->Prop}:¬LetsOut (Exit.then K (λ_ _ _=>False)):=λ⟨_,_,h⟩=>h
def P0 {α:Type} {P:Program} {n:Nat} {g:Operand} {p q:Tmp} {G U:Code} {Q:Exit->Act->wD->Prop} {l:Sl} {w:wD} {gf:Nat} {lb:lV} {rep:Nat->wD->lV->α->Prop} {Rt:nP} {S:List α}
 (hp:iC p n=true) (hq:iC q n=true) (hg:ev l g=some (.func (.func gf) #[] lb.toArray)) (eg:BU P gf=true) (ab:IterOk P gf lb rep Rt S w) (aa:∀c W vs x,rep c W vs x -> ∃u v,vs=[u,v]) (ac:∀k,Rt k->k<w.heap.size)
 (J Jx:(nP)->List α->wD->Prop) (hJ:Eo w.heap.size J) (ad:Eo w.heap.size Jx) (h0:J (λ_=>False) [] w)
 (N:∀r A pre x u v W,(∀k,A k->w.heap.size<=k/\k<W.heap.size)->A (w.heap.size+1)->J A pre W->rep (w.heap.size+2) W [u,v] x->(pre++[x]) <+: S ->
  CR P n (some r) G (Exit.then (Ib P (some r) (λk=>A k\/Rt k) (w.heap.size+1) U (λW₂=>D9 (λk=>A k\/Rt k) J Jx A (pre++[x]) W₂) W) (λ_ _ _=>False)) ((q,v)::(p,u)::l) W)
 (X:∀A W,(∀k,A k->w.heap.size<=k)->J A S W->A w.heap.size->W.heap[w.heap.size]? = some (.deferred (some []))->Jq (GJ w.heap.size) n Q .normal l W)
 (Y:∀A pre W,(∀k,A k->w.heap.size<=k)->pre <+: S->Jx A pre W->A w.heap.size->W.heap[w.heap.size]? = some (.deferred (some []))->Jq (GJ w.heap.size) n Q .ret l W) :
 CW P n (.rangeFunc g #[p,q] G U) Q l w:=by
 refine SY λa O=>?_
 refine RL (O.ev hg) eg ab (λc W vs x h=>by obtain ⟨u,v,rfl⟩:=aa c W vs x h;rfl) ac J Jx hJ ad h0 (λr A pre x vs W hA ae hj V M=>?_) (λA W hA hj Z hk=>?_) (λA pre W hA M hj Z hk=>?_)
 . obtain ⟨u,v,rfl⟩:=aa _ W vs x V;refine N r A pre x u v W hA ae hj V M _ ?_;have e1:Env n l { a with defers:=[] }:=⟨O.size,rfl,O.has⟩
   simpa [Act.put] using (e1.put hp u).put hq v
 . exact X A W hA hj Z hk _ ⟨⟨O.size,rfl,O.has⟩,by rw [O.defers];rfl⟩
 . exact Y A pre W hA M hj Z hk _ ⟨⟨O.size,rfl,O.has⟩,by rw [O.defers];rfl⟩
def Id {D:List Deferred} {n i:Nat} {Q:Exit->Act->wD->Prop} {l:Sl} {w:wD} (h:Jq D n Q .normal l w):Jq D n (Exit.inBlock i Q) .normal l w:=h
def Iu {D:List Deferred} {n i:Nat} {Q:Exit->Act->wD->Prop} {l:Sl} {w:wD} (h:Jq D n Q .ret l w):Jq D n (Exit.inBlock i Q) .ret l w:=h
def Js {D:List Deferred} {n:Nat} {K:Act->wD->Prop} {Q:Exit->Act->wD->Prop} {l:Sl} {w:wD} (h:Jq D n Q .ret l w):Jq D n (Exit.then K Q) .ret l w:=h
section
variable {α:Type} {n:Nat} {Kp:nP} {J Jx:(nP)->List α->wD->Prop} {A:nP} {xs:List α} {W w:wD} {l:Sl}
def IQ (h:Keeps Kp W w) (G:J A xs w):QW n (D9 Kp J Jx A xs W) .normal l w:=by unfold QW;exact λ_ _=>⟨h,G⟩
def VW (h:Keeps Kp W w) (G:Jx A xs w):QW n (D9 Kp J Jx A xs W) .ret l w:=by unfold QW;exact λ_ _=>⟨h,G⟩
def Yu {P:Program} {r:Option Nat} {Q:Exit->Act->wD->Prop} {x y:Code} {ι:Type} (L:ι->Sl) (I:ι->wD->Prop) (h:CR P n r x (Exit.then (λa w=> ∃i,Env n (L i) a/\I i w) Q) l w) (k:∀i w,I i w->CR P n r y Q (L i) w):CR P n r (.seq x y) Q l w:=λa G=>
 wpIn_seq (wpIn_mono (h a G) (λe a w q=>by
  cases e with
  | normal=>obtain ⟨i,M,N⟩:=q;exact k i w N a M
  | _=>exact q))
end
section
variable {P:Program} {n:Nat} {r:Option Nat} {Q:Exit->Act->wD->Prop} {l:Sl} {w:wD} {c:Operand} {x y:Code}
def IR {p:Prop} [Decidable p] (h:ev l c=some (.bool (decide p))) (G:p->CR P n r x Q l w) (M:¬p->CR P n r y Q l w):CR P n r (.cond c x y) Q l w:=SZ h (λe=>G (of_decide_eq_true e)) (λe=>M (of_decide_eq_false e))
def VX {p:Prop} [Decidable p] (G:ev l c=some (.bool (decide p))) (M:p) (h:CR P n r x Q l w):CR P n r (.cond c x y) Q l w:=IR G (λ_=>h) (λe=>absurd M e)
def ZR {p:Prop} [Decidable p] (G:ev l c=some (.bool (decide p))) (M:¬p) (h:CR P n r y Q l w):CR P n r (.cond c x y) Q l w:=IR G (λe=>absurd e M) (λ_=>h)
def VY {b:Bool} (h:ev l c=some (.bool !b)) (G:b=false->CR P n r x Q l w) (M:b=true->CR P n r y Q l w):CR P n r (.cond c x y) Q l w:=SZ h (λe=>G (by simpa using e)) (λe=>M (by simpa using e))
end
attribute [irreducible] cJ RO Jq
open Go.Proofs
variable {j c:Nat} {w w':wD} {v:Value} {S:nP} {e:Ending} {α:Type} {a:oA} {l:List Nd} {n:Int} {s:lB}
attribute [local irreducible] Go.Calls
def Nd.isRef (s:lB) (m:Nd):Bool:=decide (2<=m.kind/\m.kind<=5)&&decide (m.name=s)
def Nd.ment (s:lB) (t:Nd):Bool:=t.walk.any (Nd.isRef s)
def ZS {vs:lV} {x:Nd} (h:Yr c w vs x):∃u v,vs=[u,v]:=by
 obtain ⟨G,M,N,a,c,rfl,-⟩:=h;exact ⟨_,_,rfl⟩
def LN (t:Nd) (hz:t.size<=1000000) (s:lB) (S:nP) (a:oA) (c:Nat) (w:wD) (hs:t.sits S w a):Calls prog 178 #[t.val a c,str s] w λe w'=>e = .returned (.bool (t.ment s))/\Ext w w':=by
 have X:=Ne w;refine Gf (args:=[_,_]) func178 ntmps178 rfl rfl (cS (eB [_,_,_,_] ?_));intro b1 w2 h4 x5 p6 z7;revert hs X;refine eE x5 ?_;intro hs X;refine eB [_] ?_;intro b8 w9 N ae ax ay;revert h4 hs X;refine eE ae ?_;intro h4 hs X;refine eA [_] ?_;intro O af ab ag az z22;revert N h4 hs X;refine eE ag ?_;intro N h4 hs X;refine kQ (VV _ hz _ _ _ _ Af) ?_;rintro _ ad ⟨aw,⟨⟩,ah,ai⟩;revert ab N X;refine eY ai ?_;intro a0 ab N X;refine cT ?_;refine As ?_;obtain ⟨m,hm⟩:∃m,m=ad.heap.size:=⟨_,rfl⟩;refine P0 rfl rfl rfl AR ah (λ_ _ _ _ h=>ZS h) (λk G=>G.2)
  (λA xs W=>Blk W b8 [str s]/\Blk W O [.bool false]/\xs.any (Nd.isRef s)=false/\Ext w W)
  (λA xs W=>Blk W O [.bool true]/\xs.any (Nd.isRef s)=true/\Ext w W) ?_ ?_ ⟨N,ab,rfl,X⟩ ?_ ?_ ?_
 . rintro A A' xs W W' ⟨h1,h2,h3,x⟩ Y M - -;exact ⟨h1.fr Y (λe=>by have:=M _ e;omega),h2.fr Y (λe=>by have:=M _ e;omega),h3,mI x Y (λk G=>by have:=M _ G;omega)⟩
 . rintro A A' xs W W' ⟨h1,h2,x⟩ Y M - -;exact ⟨h1.fr Y (λe=>by have:=M _ e;omega),h2,mI x Y (λk G=>by have:=M _ G;omega)⟩
 . rintro r A pre x u v W M aj ⟨j1,Z,j3,V⟩ ⟨pa,pn,pc,xa,xc,e,sx,-⟩ aa;simp only [iP,and_true] at e;obtain ⟨rfl,rfl⟩:=e;have a1:=M _ aj;have ak:(pre++[x]).any (Nd.isRef s)=x.isRef s:=by rw [List.any_append,j3];simp
   obtain ⟨k,n,sn,l⟩:=x;have X1:=Ne W;refine Br rfl Gg (xA [_,_,_,_] ?_);intro al a2 am;refine eI [_,_,_,_] am ?_;intro a3 U an a4 a5;revert j1 Z V X1;refine eE an ?_;intro j1 Z V X1;refine Al (Ic (Keeps.of_ext X1) λW2 f2=>?_)
   revert U j1 Z;refine eF f2 ?_;intro U j1 Z;have V:=mI V f2 (λk G=>by omega);have a6:=f2.size;have a7:∀k,A k->k<W2.heap.size:=λk G=>by have:=M k G;omega
   have HA:=fZ M;simp only [mY,Nd.num,Nd.name,nb] at U;refine Ge (C8 (Br rfl (Bx (Bz BV)) (C1 Pg (C1 (Pl U) (Al (Cn (Ge (Yu (ι:=Unit) (λ_=>[(3,.pointer (some ⟨b8,0,none⟩)),(4,.pointer (some ⟨O,0,none⟩)),(6,.pointer (some ⟨al,0,none⟩)),(13,.bool (decide (2<=k/\k<=5)))]) (λ_ w'=>w'=W2) ?_ ?_))))))))
   . focus
      refine C8 (Br rfl (Bx (Bx (Bz (Bz BV)))) (C1 V1 (C1 Pa (Al (Cn (IR rfl (λao=>?_) (λao=>?_)))))));refine FK ?_;rotate_left;refine C8 (Br rfl (Bx (Bx (Bz (Bz BV)))) (C1 V1 (C1 Pa (Al (Cn (IR rfl (λap=>?_) (λap=>?_)))))));refine FK ?_;rotate_left;refine C8 (Br rfl (Bx (Bx (Bz (Bz BV)))) (C1 V1 (C1 Pa (Al (Cn (IR rfl (λaq=>?_) (λaq=>?_)))))));refine FK ?_;rotate_left;refine Br rfl (Bx (Bz (Bz BV))) (eK ?_);rotate_left
     all_goals exact BC () (An rfl (An rfl (An rfl (BO rfl (congrArg Value.bool (decide_eq_decide.2 Ab)) BE)))) rfl
   . rintro-W3 h;subst h;have X3:=mx (λk=>k=O) W3;have hb:∀k,A k\/(af.heap.size<=k/\k<ad.heap.size) -> ¬k=O:=λk G e=>by
      rcases G with G|G
      . have:=HA.out k G;omega
      . omega
     have hy:=ak;unfold Nd.isRef at hy;simp only [mY,Nd.name] at hy
     focus
      refine IR rfl (λar=>?_) (λar=>?_);refine C8 (Br rfl (Bx (Bz (Bz BV))) (C1 Pf (C1 (Pl U) (C1 (Pl j1) (C1 V8 (Al (Cn (IR rfl (λau=>?_) (λau=>?_)))))))));refine C8 (Br rfl (Bx (Bz (Bz BV))) (eS [_] Z ?_));intro a8 a9 av _;revert V X3;refine eF av ?_;intro V X3;refine Al (Cn (VS (AJ (AJ ?_))));rotate_left;refine FK (Ah (Ah ?_));rotate_left;refine FK (Ah (Ah ?_));rotate_left
     . exact VW (Keeps.of_fr X3 hb) ⟨Af,hy.trans (by simp [*]),Af⟩
     . exact IQ (Keeps.of_fr X3 hb) ⟨Af,Af,hy.trans (by simp [*]),Af⟩
     . refine IQ (Keeps.of_fr X3 hb) ⟨Af,Af,hy.trans ?_,Af⟩;rw [Bool.and_eq_false_iff];exact gA (decide_eq_false Ab)
 . rintro A W M ⟨j1,Z,j3,V⟩-G;refine Id (Dw (H7 (Ep (JX Ac rfl rfl rfl rfl rfl Z (λw1 hb Y=>GI (Dw (Jr (PZ ?_ rfl Ac rfl rfl rfl hb (λw2 ac=>⟨by rw [Nd.ment,j3],mI (mI V Y (λk e=>by omega)) ac (λk e=>by omega)⟩)))))))));rw [Y.block _ (Array.getElem?_eq_some_iff.1 G).1 Ab];exact G
 . rintro A pre W M aa ⟨j1,Z,V⟩-G;refine Iu (Js (PZ G rfl Ac rfl rfl rfl j1 (λw2 ac=>⟨?_,mI V ac (λk e=>by omega)⟩)));obtain ⟨q,hq⟩:=aa;rw [Nd.ment,<-hq,List.any_append,Z];rfl
def Ha (k:Nat):Shape Unit where
 sz:=k
 rep _ _ _ cs:=cs.length=k/\cs.all mG=true
 len h:=h.1
 one h:=h.2
 mono h _ _:=h
 lt h:=h
def Gh:Shape (Int×Bool) where
 sz:=6
 rep _ _ x cs:= ∃(k n:Int) (s:lB) (a:oA) (m c:Nat),cs=[.int .u8 k,.int .i64 n,str s,.slice a m c,.int .i64 x.1,.bool x.2]
 len h:=by obtain ⟨_,_,_,_,_,_,rfl⟩:=h;rfl
 one h:=by obtain ⟨_,_,_,_,_,_,rfl⟩:=h;rfl
 mono h _ _:=h
 lt h:=h
def NodeR (w:wD):Ending->wD->Prop:=λe w'=> ∃(k n:Int) (s:lB) (a:oA) (m c:Nat),e = .returned (.agg #[.int .u8 k,.int .i64 n,str s,.slice a m c])/\Ext w w'
def NodeR.ret (h:NodeR w e w'):∃v,e = .returned v:=by
 obtain ⟨_,_,_,_,_,_,h,-⟩:=h;exact ⟨_,h⟩
def Ie (v:Int) (w:wD) (h:0<=v):Calls prog 231 #[.int .i64 v] w (NodeR w):=by
 have X:=Ne w;refine Ad func231 ntmps231 rfl rfl (cS (eA [_,_,_,_] ?_));intro V Y N O Z z8;have X:=X.ext O;refine eK ?_;refine C1 (xB [_,_,_,_]) (eS [_,_,_,_] N ?_);intro w9 G M U;have X:=X.fr M Ab;refine kX G ?_;exact ⟨_,_,[],_,_,_,rfl,X⟩
def Um (v:Int) (w:wD) (h : -9223372036854775808<=v):Calls prog 231 #[.int .i64 v] w (NodeR w):=by
 by_cases h0:0<=v
 . exact Ie v w h0
 by_cases h1:v = -9223372036854775808
 . subst h1;have X:=Ne w;refine Ad func231 ntmps231 rfl rfl ?_;refine cS (eA [_,_,_,_] ?_);intro b1 w2 M x6 p7 z8;have X:=X.ext x6;refine eK ?_;refine eQ rfl (Ie _ _ Ab) ?_;rintro _ aq ⟨k9,ar,au,av,aw,ax,⟨⟩,Z⟩;revert M X;refine eE Z ?_;intro M X;refine eQ rfl (Ie _ _ Ab) ?_;rintro _ ay ⟨az,a0,a1,a2,a3,a4,⟨⟩,aa⟩;revert M X;refine eE aa ?_;intro M X;refine Az (xS [_,_,_,_,_,_,_,_]) rfl ?_ aFh;rintro _ a5 ⟨a6,rfl,ab,a7⟩;have ac:=ab.ext;revert M X;refine eE ac ?_;intro M X;refine C1 (xB [_,_,_,_]) (eS [_,_,_,_] M ?_);intro a8 ad ae _;have X:=X.fr ae Ab;refine eK ?_;refine xC ad ?_;exact ⟨_,_,[],_,_,_,rfl,X⟩
 . have X:=Ne w;have hw:0<=Lo (0-v):=by
    have:Lo (0-v)=0-v:=by unfold Lo;rw [kN];simp [IntKind.signed,IntKind.bits];omega
    omega
   refine Ad func231 ntmps231 rfl rfl ?_;refine cS (eA [_,_,_,_] ?_);intro a9 ba G af bb bc;have X:=X.ext af;refine eK ?_;refine C1 (Lp rfl) (eQ rfl (Ie _ _ hw) ?_);rintro _ ag ⟨bd,ah,ai,aj,ak,al,⟨⟩,N⟩;revert G X;refine eE N ?_;intro G X;refine Az (xS [_,_,_,_]) rfl ?_ aFh;rintro _ am ⟨an,rfl,O,ao⟩;have U:=O.ext;revert G X;refine eE U ?_;intro G X;refine C1 (xB [_,_,_,_]) (eS [_,_,_,_] G ?_);intro ap V Y _;have X:=X.fr Y Ab;refine eK ?_;refine xC V ?_;exact ⟨_,_,[],_,_,_,rfl,X⟩
def FU (k n:Int) (kids:List (Int×Bool)):Int×Bool:=
 if kids.all (·.2)=true then
  if k=1 then (n,true) else if k=2\/k=3\/k=4\/k=5 then (0,false)
  else if k=6\/k=7 then ((Em k (kids.getD 0 (0,false)).1).1,decide ((Em k (kids.getD 0 (0,false)).1).2=0))
  else ((El k (kids.getD 0 (0,false)).1 (kids.getD 1 (0,false)).1).1,decide ((El k (kids.getD 0 (0,false)).1 (kids.getD 1 (0,false)).1).2=0))
 else (0,false)
def S6 (x:Int×Bool):Int×Bool:=if x.2=true then x else (0,false)
mutual
def Nd.cval:Nd->Int×Bool
 | .mk k n _ l=>S6 (FU k n (GK l))
def GK:List Nd->List (Int×Bool)
 | []=>[]
 | t::r=>t.cval::GK r
end
def KG:∀l:List Nd,GK l=l.map Nd.cval
 | []=>rfl
 | t::r=>by rw [GK,KG r,iO]
def FoldR (t:Nd) (w:wD):Ending->wD->Prop:=λe w'=> ∃(k n:Int) (s:lB) (a:oA) (m c:Nat),e = .returned (.agg #[.int .u8 k,.int .i64 n,str s,.slice a m c,.int .i64 t.cval.1,.bool t.cval.2])/\Ext w w'
def FoldR.ret {t:Nd} (h:FoldR t w e w'):∃v,e = .returned v:=by
 obtain ⟨_,_,_,_,_,_,h,-⟩:=h;exact ⟨_,h⟩
def EachR {α:Type} (sh:Shape α) (e:Nat) (xs:List α) (w:wD):Ending->wD->Prop:=λr w'=> ∃a c,r = .returned (.slice a xs.length c)/\OwnQ sh w' (λ_=>False) w.heap.size e (.slice a xs.length c) xs/\Ext w w'
def EachR.ret {sh:Shape α} {e:Nat} {xs:List α} {r:Ending} (h:EachR sh e xs w r w'):∃v,r = .returned v:=by
 obtain ⟨_,_,h,-⟩:=h;exact ⟨_,h⟩
def Yv (l:List Nd) (hl:l.length<=1000000) (S:nP) (a:oA) (c:Nat) (w:wD) (M:rowSits S w l a)
 (hC:∀x∈l,∀(S:nP) (a:oA) (c:Nat) (w:wD),x.sits S w a->Calls prog 218 #[x.val a c] w (FoldR x w)) :
 Calls prog 229 #[.slice a l.length c,.func (.func 218) #[] #[]] w (EachR Gh 272 (l.map Nd.cval) w):=by
 have HC:=fZ hC;have M:=B7 _ _ M;have X:=Ne w;refine Ad func229 ntmps229 rfl rfl (cS (C1 Pa (cN (C1 Pa (cT (Aj (cS (C1 Mv (C1 Pz (C1 Mv (cT ?_)))))))))));refine As ?_;refine AF (ι:=Nat×oA×Nat) (λx=>[(1,.func (.func 218) #[] #[]),(5,.slice x.2.1 ((l.take x.1).map Nd.cval).length x.2.2),(8,.slice a l.length c),(9,.int .i64 l.length),(10,.int .i64 x.1)])
  (λx w'=>OwnQ Gh w' (λ_=>False) w.heap.size 272 (.slice x.2.1 ((l.take x.1).map Nd.cval).length x.2.2) ((l.take x.1).map Nd.cval)/\x.1<=l.length/\rowSits (· < w.heap.size) w' l a/\Ext w w')
  (λx=>l.length-x.1) (0,none,0) sB ⟨OwnQ.nil,gI _,M,X⟩ ?_
 rintro ⟨j,ra,rc⟩ w1 ⟨G,hj,M,X⟩;simp only at G hj M X;have Y:∀g,(iA ra ((l.take j).map Nd.cval).length rc).ownBlock=some g->w.heap.size<=g/\g<w1.heap.size:=λg h=>⟨G.ge h,G.lt h⟩
 have az:=X.size;by_cases U:j<l.length
 . obtain ⟨kb,ko,rfl,kS,Z⟩:=BJ M (by intro e;subst e;simp at U);obtain ⟨xa,xc,rx,sx⟩:=Z j l[j] (fY U);have HX:=fZ (HC.out l[j] (gK U));have O:(l.take j).map Nd.cval++[l[j].cval]=(l.take (j+1)).map Nd.cval:=by rw [gC U,jE];rfl
   have a0:((l.take j).map Nd.cval).length<=1000000:=by simp;omega
   generalize l[j]=x at *;refine eK ?_;refine xA [_,_,_,_] ?_;intro a1 a2 ad;refine eI [_,_,_,_] ad ?_;intro a3 a4 ae a5 a6;revert G X M sx;refine eE ae ?_;intro G X M sx;refine eK ?_;refine Az (Bb (fi:=[]) (ca:=[]) AR rfl rfl (HX.out _ _ _ _ Af) (λ_ _ h=>h.ret)) rfl ?_ aFh;rintro _ af ⟨a7,ag,ah,ai,aj,ak,⟨⟩,aa⟩;revert G X M;refine eY aa ?_;intro al G X M;refine Az (xS [_,_,_,_,_,_]) rfl ?_ aFh;rintro _ am ⟨an,rfl,N,ao⟩;have ap:=N.blk;have ab:=N.ext;have aq:=N.pos;have ar:=N.size;revert G X M;refine eE ab ?_;intro G X M;refine C9 (R:=λ_=>False) (sh:=Gh) (z:=x.cval) Ac Ca rfl rfl rfl rfl AR rfl rfl rfl Af (λ_ h=>by exact h) (mJ Af) ⟨_,_,_,_,_,_,rfl⟩ Ab Ab rfl ?_;rintro au ac av aw ax ay V;have X:=mI X V (λk hk=>by have:=Y _ hk;omega);have M:=mW M V (λb hb h=>by have:=Y _ h;omega);refine C1 Pa (Al (Ah (Ai (Ak (C1 V7 (C1 Mv (Al ?_)))))));rw [O];exact Av (j+1,some ⟨_,0,none⟩,_) sB ⟨by simp only;rw [<-O];assumption,by simp only;omega,M,X⟩ (by simp only;omega)
 . obtain rfl:j=l.length:=by omega
   rw [gL] at G;refine kR ?_;simp only [gL];exact ⟨_,_,rfl,G,X⟩
def KidsAt (w:wD) (a:oA) (kids:List (Int×Bool)):Prop:=kids=[] \/ ∃b o,a=some ⟨b,o,none⟩/\b<w.heap.size /\ ∀(i:Nat) (x:Int×Bool),kids[i]? = some x -> ∃(k n:Int) (s:lB) (c:oA) (m d:Nat),Row w ⟨b,o+i*6,none⟩ [.int .u8 k,.int .i64 n,str s,.slice c m d,.int .i64 x.1,.bool x.2]
def KidsAt.ext {w w':wD} {a:oA} {kids:List (Int×Bool)} (h:KidsAt w a kids) (x:Ext w w'):KidsAt w' a kids:=h.imp id λ⟨b,o,h1,h2,h3⟩=>⟨b,o,h1,jN h2 x.size,λi y G=>by
 obtain ⟨k,n,s,c,m,d,r⟩:=h3 i y G;exact ⟨k,n,s,c,m,d,r.ext x⟩⟩
instance {kids:List (Int×Bool)}:LfE w w' (KidsAt w a kids) (KidsAt w' a kids):=⟨λx h=>Bk.KidsAt.ext h x⟩
def OwnQ.kidsAt {R:nP} {B e cap m:Nat} {kids:List (Int×Bool)} (h:OwnQ Gh w R B e (.slice a m cap) kids):KidsAt w a kids:=by
 by_cases M:kids=[]
 . exact gA M
 . obtain ⟨g,N,O,-,U,G⟩:=h.rows M;simp only [iF] at O;obtain ⟨rfl,-,-⟩:=O;refine gB ⟨g,0,rfl,U,λi x V=>?_⟩;obtain ⟨cs,X,k,n,s,c,m,d,rfl⟩:=G i x V;exact ⟨k,n,s,c,m,d,by simpa [Gh] using X⟩
set_option maxHeartbeats 8000000 in
def Yw (k n:Int) (s:lB) (l:List Nd) (na:oA) (nc:Nat) (kids:List (Int×Bool)) (a:oA) (c:Nat) (w:wD) (hl:kids.length<=1000000) (G:KidsAt w a kids) (h1:k=6\/k=7->kids.length=1) (h2:8<=k->kids.length=2) (h0:1<=k) :
 Calls prog 230 #[(Nd.mk k n s l).val na nc,.slice a kids.length c] w λe w'=>e = .returned (.tuple #[.int .i64 (FU k n kids).1,.bool (FU k n kids).2])/\Ext w w':=by
 have X:=Ne w;have HK:=fZ G;clear G;refine Ad func230 ntmps230 rfl rfl ?_;refine cS (eB [_,_,_,_] ?_);intro b1 w2 Z x5 _ _;have X:=X.ext x5;refine C1 Pa (C1 Pa (cT (Aj (cS (C1 Mv (C1 Pz (C1 Mv (cT ?_))))))));refine As ?_;refine AF (ι:=Nat) (λj=>[(1,.slice a kids.length c),(2,.pointer (some ⟨b1,0,none⟩)),(10,.slice a kids.length c),(11,.int .i64 kids.length),(12,.int .i64 j)])
  (λj w'=>j<=kids.length/\Blk w' b1 [.int .u8 k,.int .i64 n,str s,.slice na l.length nc]/\Ext w w'/\(kids.take j).all (·.2)=true)
  (λj=>kids.length-j) 0 sB ⟨gI _,Z,X,rfl⟩ ?_
 clear Z X;rintro j w2 ⟨hj,Z,X,O⟩;by_cases aa:j<kids.length
 . rcases HK.out.ext X with G|⟨b,o,rfl,hb,G⟩
   . subst G;simp at aa
   obtain ⟨k',n',s',c',m',d',r0⟩:=G j kids[j] (fY aa);have ac:(kids.take (j+1)).all (·.2)=kids[j].2:=by rw [gC aa,lJ,O];simp
   have ae:kids[j].2=false->kids.all (·.2)=false:=λh=>by
    rw [mh];exact ⟨kids[j],gK aa,by rw [h];simp⟩
   clear G;generalize kids[j]=x at *
   focus
    refine eK ?_;refine xA [_,_,_,_,_,_] ?_;intro ay az aj;refine eI [_,_,_,_,_,_] aj ?_;intro a0 ak al _ _;revert Z X;refine eE al ?_;intro Z X;refine cN (C1 Pf (C1 (Pl ak) (C1 Pt (cT ?_))));refine I9 rfl (λam=>?_) (λam=>?_);refine kT ?_;rotate_left;refine Am (Ah (Ai (Ak (C1 V7 (C1 Mv (Al ?_))))));rotate_left
   . exact ⟨by rw [FU,AC (by rw [ae Af];simp)],X⟩
   . exact Av (j+1) sB ⟨Ab,Z,X,ac.trans Af⟩ Ab
 . obtain rfl:j=kids.length:=by omega
   rw [gL] at O;have hv:FU k n kids=if k=1 then (n,true) else if k=2\/k=3\/k=4\/k=5 then (0,false) else if k=6\/k=7 then ((Em k (kids.getD 0 (0,false)).1).1,decide ((Em k (kids.getD 0 (0,false)).1).2=0)) else ((El k (kids.getD 0 (0,false)).1 (kids.getD 1 (0,false)).1).1,decide ((El k (kids.getD 0 (0,false)).1 (kids.getD 1 (0,false)).1).2=0)):=by rw [FU,AT O]
   rw [hv];clear O hv;by_cases k5:k<=5
   . clear h1 h2 HK
     focus
      refine eK ?_;refine AA rfl (λan=>?_) (λan=>?_);refine kT ?_;rotate_left;refine eK ?_;refine AA rfl (λao=>?_) (λao=>?_);refine kT ?_;rotate_left;refine eK ?_;refine AA rfl (λap=>?_) (λap=>?_);refine kT ?_;rotate_left;refine eK ?_;refine AA rfl (λaq=>?_) (λaq=>?_);refine kT ?_;rotate_left;refine kT ?_;rotate_left
     all_goals (refine ⟨?_,X⟩;first|rw [AT Ab]|rw [AC Ab,AT Ab])
   by_cases k7:k<=7
   . have ad:=h1 Ab
     match kids,ad with
     | [x],_=>
      rcases HK.out.ext X with G|⟨b,o,rfl,hb,G⟩
      . cases G
      obtain ⟨k',n',s',c',m',d',r0⟩:=G 0 x rfl;clear h1 h2 HK G
      focus
       refine eK ?_;refine AA rfl (λar=>?_) (λar=>?_);refine eK ?_;refine Ap (λU=>Ext w2 U) 11 (.pure 0 (.pure 1 (.pure 2 (.pure 3 (.pure 4 (.pure 5 (.fork 6 (.pure 7 (.pure 8 (.pure 9 (.pure 10 .tail)))) .none))))))) mixed AR (Ae (Aa Ag)) ?_;intro au af _;have V:(λU=>Ext w2 U) au:=af;simp only at V;have ab:=Z;have M:=r0;have X:=X.ext af;refine ⟨V,?_⟩;refine eT ?_;refine Tq rfl (Dr M) ?_;refine tC rfl rfl (Og _ _ _) ?_;rintro _ a1 ⟨⟨⟩,rfl⟩;refine ⟨V,?_⟩;refine Tq rfl Mv (Tq rfl Px (Tq rfl Px (Tq rfl Pa ?_)));refine Aq rfl ?_;refine kT ?_;rotate_left;refine eK ?_;refine Ap (λU=>Ext w2 U) 11 (.pure 0 (.pure 1 (.pure 2 (.pure 3 (.pure 4 (.pure 5 (.fork 6 (.pure 7 (.pure 8 (.pure 9 (.pure 10 .tail)))) .none))))))) mixed AR (Ae (Aa Ag)) ?_;intro av ag _;have N:(λU=>Ext w2 U) av:=ag;simp only at N;have ab:=Z;have M:=r0;have X:=X.ext ag;refine ⟨N,?_⟩;refine eT ?_;refine Tq rfl (Dr M) ?_;refine tC rfl rfl (Og _ _ _) ?_;rintro _ ax ⟨⟨⟩,rfl⟩;refine ⟨N,?_⟩;refine Tq rfl Mv (Tq rfl Px (Tq rfl Px (Tq rfl Pa ?_)));refine Aq rfl ?_;refine kT ?_;rotate_left
      all_goals (refine ⟨?_,X⟩;rw [AC Ab,AC Ab,AT Ab];rfl)
   . have ad:=h2 Ab
     match kids,ad with
     | [x,y],_=>
      rcases HK.out.ext X with G|⟨b,o,rfl,hb,G⟩
      . cases G
      obtain ⟨k',n',s',c',m',d',r0⟩:=G 0 x rfl;obtain ⟨a2,a3,a4,a5,a6,a7,r1⟩:=G 1 y rfl;clear h1 h2 HK G;refine eK ?_;refine Ap (λU=>Ext w2 U) 15 (.pure 0 (.pure 1 (.pure 2 (.pure 3 (.pure 4 (.pure 5 (.pure 6 (.pure 7 (.pure 8 (.pure 9 (.fork 10 (.pure 11 (.pure 12 (.pure 13 (.pure 14 .tail)))) .none))))))))))) mixed AR (Ae (Aa Ag)) ?_;intro aw ah _;have Y:(λU=>Ext w2 U) aw:=ah;simp only at Y;have ab:=Z;have M:=r0;have ai:=r1;have X:=X.ext ah;refine ⟨Y,?_⟩;refine eT ?_;refine Tq rfl (Dr M) ?_;refine eT ?_;refine Tq rfl (Dr ai) ?_;refine tC rfl rfl (SL _ _ _ _) ?_;rintro _ a8 ⟨⟨⟩,rfl⟩;refine ⟨Y,?_⟩;refine Tq rfl Mv (Tq rfl Px (Tq rfl Px (Tq rfl Pa ?_)));refine Aq rfl ?_;refine kT ?_;refine ⟨?_,X⟩;rw [AC Ab,AC Ab,AC Ab];rfl
def Yx (k n:Int) (s:lB) (a:oA) (m c:Nat) (v:Int) (q:Bool) (w:wD) :
 Calls prog 233 #[.agg #[.int .u8 k,.int .i64 n,str s,.slice a m c,.int .i64 v,.bool q]] w λe w'=>e = .returned (.agg #[.int .u8 k,.int .i64 n,str s,.slice a m c])/\Ext w w':=by
 have X:=Ne w;refine Ad func233 ntmps233 rfl rfl (cS (eB [_,_,_,_,_,_] ?_));intro b1 w2 O U p6 z7;have X:=X.ext U;refine eA [_,_,_,_] ?_;intro b8 w9 h G V Y;revert O X;refine eE G ?_;intro O X;refine eK ?_;refine eS [_,_,_,_] h ?_;intro Z M N aa;have X:=X.fr N Ab;refine kX M ?_;all_goals exact ⟨rfl,X⟩
def Yy (kids:List (Int×Bool)) (hl:kids.length<=1000000) (a:oA) (c:Nat) (w:wD) (O:KidsAt w a kids) :
 Calls prog 232 #[.slice a kids.length c,.func (.func 233) #[] #[]] w (EachR (Ha 4) 29 (kids.map λ_=>()) w):=by
 have X:=Ne w;refine Ad func232 ntmps232 rfl rfl (cS (C1 Pa (cN (C1 Pa (cT (Aj (cS (C1 Mv (C1 Pz (C1 Mv (cT ?_)))))))))));refine As ?_;refine AF (ι:=Nat×oA×Nat) (λx=>[(1,.func (.func 233) #[] #[]),(5,.slice x.2.1 (iK x.1 ()).length x.2.2),(8,.slice a kids.length c),(9,.int .i64 kids.length),(10,.int .i64 x.1)])
  (λx w'=>OwnQ (Ha 4) w' (λ_=>False) w.heap.size 29 (.slice x.2.1 (iK x.1 ()).length x.2.2) (iK x.1 ())/\x.1<=kids.length/\Ext w w')
  (λx=>kids.length-x.1) (0,none,0) sB ⟨OwnQ.nil,gI _,X⟩ ?_
 rintro ⟨j,ra,rc⟩ w1 ⟨G,hj,X⟩;simp only at G hj X;have aa:∀g,(iA ra (iK j ()).length rc).ownBlock=some g->w.heap.size<=g/\g<w1.heap.size:=λg h=>⟨G.ge h,G.lt h⟩
 have au:=X.size;by_cases U:j<kids.length
 . rcases O.ext X with O|⟨b,o,rfl,hb,ab⟩
   . subst O;simp at U
   obtain ⟨k',n',s',c',m',d',r0⟩:=ab j kids[j] (fY U);have av:(iK j ()).length<=1000000:=by simp;omega
   have N:iK j ()++[()]=iK (j+1) ():=by rw [l7]
   generalize kids[j]=x at *;refine eK ?_;refine xA [_,_,_,_,_,_] ?_;intro aw ax ac;refine eI [_,_,_,_,_,_] ac ?_;intro ay az ad a0 a1;revert G X;refine eE ad ?_;intro G X;refine eK ?_;refine Az (Bb (fi:=[]) (ca:=[]) AR rfl rfl (Yx _ _ _ _ _ _ _ _ _) (λ_ _ h=>⟨_,h.1⟩)) rfl ?_ aFh;rintro _ af ⟨⟨⟩,ae⟩;revert G X;refine eY ae ?_;intro ag G X;refine Az (xS [_,_,_,_]) rfl ?_ aFh;rintro _ ah ⟨ai,rfl,M,aj⟩;have ak:=M.blk;have V:=M.ext;have al:=M.pos;have am:=M.size;revert G X;refine eE V ?_;intro G X;refine C9 (R:=λ_=>False) (sh:=Ha 4) (z:=()) Ac Ca rfl rfl rfl rfl AR rfl rfl rfl Af (λ_ h=>by exact h) (mJ Af) ⟨rfl,rfl⟩ Ab Ab rfl ?_;rintro an Y ao ap aq ar Z;have X:=mI X Z (λk O=>by have:=aa _ O;omega);refine C1 Pa (Al (Ah (Ai (Ak (C1 V7 (C1 Mv (Al ?_)))))));rw [N];exact Av (j+1,some ⟨_,0,none⟩,_) sB ⟨by simp only;rw [<-N];assumption,by simp only;omega,X⟩ (by simp only;omega)
 . obtain rfl:j=kids.length:=by omega
   have e:kids.map (λ_=>())=iK kids.length ():=by rw [List.map_const']
   rw [e];refine kR ?_;exact ⟨_,_,rfl,G,X⟩
def KH (v:Int):Prop:= -9223372036854775808<=v/\v<=9223372036854775807
def OA (v:Int):KH (Lo v):=by
 unfold KH Lo;rw [kN];simp [IntKind.signed,IntKind.bits];split<;>omega
def S7 (b:Bool):KH (Vl b):=by cases b<;>simp [Vl,KH]
def Un (k x:Int):KH (Em k x).1:=by
 unfold Em;split
 . exact OA _
 split
 . exact S7 _
 . simp [KH]
def Yz (o:BinOp) (x y:Int):KH (Of o x y):=by
 unfold Of;split<;>exact OA _
def VZ {x:Int} (h:KH x):KH (x.tmod n):=by
 have M:=Int.natAbs_tmod x n;have N:=Nat.mod_le x.natAbs n.natAbs;unfold KH at h ⊢;by_cases G:0<=x
 . have:=Int.tmod_nonneg n G;omega
 . have O:(-x).tmod n = - x.tmod n:=Int.neg_tmod ..;have U:=Int.tmod_nonneg n (show 0 <= -x by omega);omega
def YA {c:Prop} [Decidable c] {a b:Int×Int} (h:KH a.1) (G:KH b.1):KH (if c then a else b).1:=by split<;>assumption
def Uo (k:Int) {x:Int} (h:KH x):KH (El k x n).1:=by
 unfold El TN
 repeat' (refine YA ?_ ?_)
 all_goals first
  | exact OA _
  | exact S7 _
  | exact Yz _ _ _
  | exact VZ h
  | (constructor<;>decide)
def RP {k:Int} {kids:List (Int×Bool)} (h:KH n) (G:∀x∈kids,KH x.1):KH (FU k n kids).1:=by
 have M:KH (kids.getD 0 (0,false)).1:=by
  cases kids with
  | nil=>simp [KH]
  | cons x r=>exact G x AQ
 unfold FU
 repeat' split
 all_goals first
  | exact h
  | exact Un _ _
  | exact Uo _ M
  | simp [KH]
def V0 {x:Int×Bool} (h:KH x.1):KH (S6 x).1:=by
 unfold S6;split
 . exact h
 . simp [KH]
mutual
def P1:∀t:Nd,t.wf->KH t.cval.1
 | .mk k n s l,h=>by
  simp only [Nd.wf] at h;rw [Nd.cval];exact V0 (RP ⟨h.2.2.1,h.2.2.2.1⟩ (S8 l h.2.2.2.2.2.2))
def S8:∀l:List Nd,CO l -> ∀x∈GK l,KH x.1
 | [],_,x,hx=>by simp [GK] at hx
 | t::r,h,x,hx=>by
  simp only [CO] at h;simp only [GK,gT] at hx;rcases hx with rfl|hx
  . exact P1 t h.1
  . exact S8 r h.2 x hx
end
def JY {k:Int} (h:(Nd.mk k n s l).isExpr=true):1<=k/\(∀x∈l,x.isExpr=true)/\(k=6\/k=7->l.length=1)/\(8<=k->l.length=2):=by
 rw [Nd.isExpr.eq_def] at h;simp only at h;split at h
 . rename_i G;simp only [gD,jS] at h;rw [h.2];exact ⟨Ab,AQ,Ab,Ab⟩
 split at h
 . simp only [gD,jS] at h;rw [h.2];exact ⟨Ab,AQ,Ab,Ab⟩
 split at h
 . match l,h with
   | [x],h=>
    simp only [gD] at h;exact ⟨Ab,by simpa using h.2,Ab,Ab⟩
   | [],h=>simp at h
   | _::_::_,h=>simp at h
 split at h
 . match l,h with
   | [x],h=>
    simp only [gD] at h;exact ⟨Ab,by simpa using h.2,λ_=>rfl,Ab⟩
   | [],h=>simp at h
   | _::_::_,h=>simp at h
 split at h
 . match l,h with
   | [x,y],h=>
    simp only [gD] at h;exact ⟨Ab,by simpa using h.2,Ab,λ_=>rfl⟩
   | [],h=>simp at h
   | [_],h=>simp at h
   | _::_::_::_,h=>simp at h
 . simp at h
def aI (N:Nat):∀(t:Nd),t.size<N->t.size<=1000000->t.wf->t.isExpr=true -> ∀(S:nP) (a:oA) (c:Nat) (w:wD),t.sits S w a->Calls prog 218 #[t.val a c] w (FoldR t w):=by
 induction N with
 | zero=>intro t h;omega
 | succ N ih=>
  rintro ⟨k,n,s,l⟩ hN hM hf hx S a c w hs;have ap:=Co l;simp only [mF] at hN hM;have hR:=P1 _ hf;obtain ⟨e1,e2,e3,e4⟩:=JY hx;simp only [Nd.wf] at hf;have HC:=fZ (λx M=>ih x (by have:=CA M;omega) (by have:=CA M;omega) (BN hf.2.2.2.2.2.2 x M) (e2 x M));have V:(l.map Nd.cval).length=l.length:=by simp
  have Y:(Nd.mk k n s l).cval=S6 (FU k n (l.map Nd.cval)):=by rw [Nd.cval,KG]
  have X:=Ne w;refine Ad func218 ntmps218 rfl rfl (cS (eB [_,_,_,_] ?_));intro b1 w2 O x5 p6 z7;revert hs X;refine eE x5 ?_;intro hs X;refine eA [_,_,_,_,_,_] ?_;intro b8 w9 G ai ax ay;revert O hs X;refine eE ai ?_;intro O hs X;refine kQ (Yv l Ab _ _ _ _ (En Af) HC.out) ?_;rintro _ aj ⟨Z,aa,⟨⟩,ak,al⟩;revert G O X;refine eE al ?_;intro G O X;refine eK ?_;have U:=ak.kidsAt;have HV:=fZ (Yw k n s l a c (l.map Nd.cval) Z aa aj Ab U (λh=>by rw [V];exact e3 h) (λh=>by rw [V];exact e4 h) e1);have HE:=fZ (Yy (l.map Nd.cval) Ab Z aa);have ab:=Y;rw [Y] at hR;generalize l.map Nd.cval=kids at *;generalize FU k n kids=cv at *;obtain ⟨v,q⟩:=cv;dsimp only at HV;cases q
  . refine kC (HV.out) ?_;rintro _ az ⟨⟨⟩,am⟩;revert G O X U;refine eE am ?_;intro G O X U;refine kQ (HE.out _ Af) ?_;rintro _ a0 ⟨a1,a2,⟨⟩,a3,an⟩;revert G O X;refine eE an ?_;intro G O X;refine C1 Pf (eV [_] [_,_,_,_] O ?_);intro aq ar ac _;revert G X;refine eF ac ?_;intro G X;refine eK ?_;refine C1 (xB [_,_,_,_,_,_]) (eS [_,_,_,_,_,_] G ?_);intro au ad ae _;have X:=X.fr ae Ab;refine kX ad ?_;exact ⟨_,_,_,_,_,_,by rw [ab];rfl,X⟩
  . refine kC (HV.out) ?_;rintro _ a4 ⟨⟨⟩,ao⟩;revert G X;refine eE ao ?_;intro G X;refine kQ (Um _ _ hR.1) ?_;rintro _ av ⟨a5,a6,a7,a8,a9,ba,⟨⟩,af⟩;revert G X;refine eE af ?_;intro G X;refine C1 Mv (C1 (xB [_,_,_,_,_,_]) (eS [_,_,_,_,_,_] G ?_));intro aw ag ah _;have X:=X.fr ah Ab;refine kX ag ?_;exact ⟨_,_,_,_,_,_,by rw [ab];rfl,X⟩
def Nd.const (t:Nd):Int×Bool:=if t.isExpr=true then t.cval else (0,false)
def YB (t:Nd) (hM:t.size<=1000000) (hf:t.wf) (S:nP) (a:oA) (c:Nat) (w:wD) (N:t.sits S w a):Calls prog 204 #[t.val a c] w λe w'=>e = .returned (.tuple #[.int .i64 t.const.1,.bool t.const.2])/\Ext w w':=by
 have h:=Fm S t hf;unfold DX at h;have X:=Ne w;by_cases O:t.isExpr=true
 . have HF:=fZ (aI (t.size+1) t Ab hM hf O);have Y:t.const=t.cval:=by rw [Nd.const,AT O]
   rw [Y];rw [O] at h;have Z:=fZ h;refine Ad func204 ntmps204 rfl rfl (cS (eB [_,_,_,_] ?_));intro b1 w2 h4 x5 _ _;revert N X;refine eE x5 ?_;intro N X;refine kC (Z.out _ _ _ Af) ?_;rintro _ w9 ⟨⟨⟩,x8⟩;revert h4 N X;refine eE x8 ?_;intro h4 N X;refine kQ (HF.out _ _ _ _ Af) ?_;rintro _ ah ⟨ai,aj,ak,al,am,an,⟨⟩,aa⟩;have X:=X.ext aa;refine xA [_,_,_,_,_,_] ?_;intro ao ap ab;refine eI [_,_,_,_,_,_] ab ?_;intro U ac ad _ _;have X:=X.ext ad;refine eK ?_;refine Ap (λwz=>Ext U wz) 5 (.pure 0 (.pure 1 (.pure 2 (.pure 3 (.pure 4 .tail))))) mixed AR (Aa Ag) ?_;intro ae V _;have M:(λwz=>Ext U wz) ae:=V;simp only at M;have G:=ac;have X:=X.ext V;refine ⟨M,(Tq rfl Pf (Tq rfl (Db G) (Tq rfl Pf (Tq rfl (Db G) (Tq rfl Pa (Aq rfl (kT ?_)))))))⟩;all_goals exact ⟨rfl,X⟩
 . have Y:t.const=(0,false):=by rw [Nd.const,AC O]
   rw [Y];rw [Bool.not_eq_true] at O;rw [O] at h;have Z:=fZ h;refine Ad func204 ntmps204 rfl rfl (cS (eB [_,_,_,_] ?_));intro aq ar au af _ _;revert N X;refine eE af ?_;intro N X;refine kC (Z.out _ _ _ Af) ?_;rintro _ av ⟨⟨⟩,ag⟩;have X:=X.ext ag;refine kT ?_;exact ⟨rfl,X⟩
def IS (t:Nd) (G:t.size<=1000000) (M:t.wf) (S:nP) (a:oA) (c:Nat) (w:wD) (h:t.sits S w a):Calls prog 182 #[t.val a c] w λe w'=>e = .returned (.bool t.const.2)/\Ext w w':=by
 have X:=Ne w;refine Ad func182 ntmps182 rfl rfl (cS (eB [_,_,_,_] ?_));intro U V Y N _ _;revert h X;refine eE N ?_;intro h X;refine kC (YB _ G M _ _ _ _ Af) ?_;rintro _ Z ⟨⟨⟩,O⟩;have X:=X.ext O;refine kR ?_;exact ⟨rfl,X⟩
def Nd.idx (t:Nd) (s:lB):Bool:=decide (t.kind=3)&&(match t.kids with
 | []=>false
 | x::_=>x.ment s)
def DL (places:List Nd) (names:List lB):Option lB:=places.findSome? λt=>names.find? λs=>t.idx s
def EM (o:Option lB):lB×Int:=match o with
 | some s=>(s,8)
 | none=>([],0)
def Nd.okIdx (t:Nd):Prop:=t.kind=3->t.kids≠[]
def Nq (t:Nd) (G:t.size<=1000000) (hp:t.okIdx) (s:List UInt8) (S:Nat->Prop) (a:Option Addr) (c:Nat) (w:World) (M:t.sits S w a):Calls prog 177 #[t.val a c,str s] w λe w'=>e = .returned (.bool (t.idx s))/\Ext w w':=by
 obtain ⟨k,n,N,l⟩:=t;have X:=Ne w
 by_cases h3:k=3
 . subst h3;have O:l≠[]:=hp rfl
   match l,O,M,G with
   | x::r,_,M,G=>
    have U:=En M;obtain ⟨kb,ko,rfl,kS,h⟩:=BJ U AQ;obtain ⟨xa,xc,V,sx⟩:=h 0 x rfl
    have Y:x.size<=1000000:=by simp only [mF,AY] at G;omega
    have Z:(Nd.mk 3 n N (x::r)).idx s=x.ment s:=by unfold Nd.idx;simp [mY,nb]
    rw [Z]
    show Calls prog 177 #[.agg #[.int .u8 3,.int .i64 n,str N,.slice (some ⟨kb,ko,none⟩) (r.length+1) c],str s] w _
    refine Ad func177 ntmps177 rfl rfl ?_
    refine cS (eB [_,_,_,_] ?_);intro b1 w2 h4 x5 _ _;revert X V sx;refine eE x5 ?_;intro X V sx;refine C1 Pa (cN (C1 Pg (C1 (Pl h4) (C1 V1 (C1 Mv (Pc (C1 Pf (Pc (C1 (Pl h4) (Pc (C1 Pi (Pc (BQ [_,_,_,_] Ac rfl rfl rfl V rfl rfl rfl (Pc (C1 Mv (Pc (cC rfl (LN _ Y _ _ _ _ _ Af) ?_)))))))))))))))));rintro _ w9 ⟨⟨⟩,x8⟩;replace X:=X.ext x8;refine C1 ZN (C1 Pa (cT (AU (AW rfl rfl ?_))))
    exact ⟨rfl,X⟩
 . have Z:(Nd.mk k n N l).idx s=false:=by unfold Nd.idx;simp [mY,h3]
   rw [Z];refine Ad func177 ntmps177 rfl rfl ?_
   refine cS (eB [_,_,_,_] ?_);intro ac ad aa ab _ _;replace X:=X.ext ab;refine C1 Pa (cN (C1 Pg (C1 (Pl aa) (C1 V1 (C1 Mv (Im (Im (Im (Im (Im (Im (C1 MU (C1 Pa (cT (AU (AW rfl rfl ?_))))))))))))))))
   exact ⟨rfl,X⟩
def Up {f:α->Bool} {l:List α} (h:j<l.length) (M:(l.take j).find? f=none):(l.take (j+1)).find? f=if f l[j]=true then some l[j] else none:=by
 rw [gC h,mi,M];by_cases G:f l[j]=true
 . simp [G]
 . simp [G]
def Uq {f:α->Bool} {l:List α} {x:α} (h:(l.take j).find? f=some x):l.find? f=some x:=by
 rw [<-iT j l,mi,h];rfl
def RQ {β:Type} {f:α->Option β} {l:List α} (h:j<l.length) (G:(l.take j).findSome? f=none):(l.take (j+1)).findSome? f=f l[j]:=by
 rw [gC h,List.findSome?_append,G];simp
def RR {β:Type} {f:α->Option β} {l:List α} {x:β} (h:(l.take j).findSome? f=some x):l.findSome? f=some x:=by
 rw [<-iT j l,List.findSome?_append,h];rfl
def OB (G:List Nd) (M:List lB) (hz:AY G<=1000000) (hp:∀t∈G,t.okIdx) (hn:M.length<=1000) (S:nP) (a:oA) (c Z:Nat) (no nc:Nat) (w:wD) (O:rowSits S w G a) (U:Row w ⟨Z,no,none⟩ (M.map str)) :
 Calls prog 179 #[.slice a G.length c,.slice (some ⟨Z,no,none⟩) M.length nc] w λe w'=>e = .returned (.tuple #[str (EM (DL G M)).1,.int .i64 (EM (DL G M)).2])/\Ext w w':=by
 have X:=Ne w;have am:=Co G;have HP:=fZ hp;have O:=B7 _ _ O;refine Ad func179 ntmps179 rfl rfl (cS (C1 Pa (C1 Pa (cT (Aj (cS (C1 Mv (C1 Pz (C1 Mv (cT ?_))))))))));refine As ?_;refine AF (ι:=Nat) (λi=>[(1,.slice (some ⟨Z,no,none⟩) M.length nc),(10,.slice a G.length c),(11,.int .i64 G.length),(12,.int .i64 i)])
  (λi w'=>i<=G.length/\rowSits (· < w.heap.size) w' G a/\Row w' ⟨Z,no,none⟩ (M.map str)/\Ext w w'/\(G.take i).findSome? (λt=>M.find? λs=>t.idx s)=none)
  (λi=>G.length-i) 0 sB ⟨gI _,O,U,X,rfl⟩ ?_
 rintro i w1 ⟨hi,O,U,X,N⟩;by_cases V:i<G.length
 . obtain ⟨kb,ko,rfl,kS,ab⟩:=BJ O (by intro e;subst e;simp at V);obtain ⟨xa,xc,rx,sx⟩:=ab i G[i] (fY V);have an:=CA (gK V);have ae:=HP.out _ (gK V);have Y:=RQ V N;have af:∀s,M.find? (λs=>G[i].idx s)=some s->EM (DL G M)=(s,8):=λs h=>by rw [DL,RR (Y.trans h)];rfl
   generalize G[i]=x at *;refine eK ?_;refine xA [_,_,_,_] ?_;intro ac ao ag;refine eI [_,_,_,_] ag ?_;intro ap ah ai _ _;revert U X O sx;refine eE ai ?_;intro U X O sx;refine cN (C1 Mv (C1 Pz (C1 Mv (cT ?_))));refine As ?_;refine AF (ι:=Nat) (λj=>[(1,.slice (some ⟨Z,no,none⟩) M.length nc),(10,.slice (some ⟨kb,ko,none⟩) G.length c),(11,.int .i64 G.length),(12,.int .i64 i),(7,.pointer (some ⟨ac,0,none⟩)),(16,.slice (some ⟨Z,no,none⟩) M.length nc),(17,.int .i64 M.length),(18,.int .i64 j)])
    (λj w'=>j<=M.length/\Blk w' ac (x.cells xa xc)/\x.sits (· < w.heap.size) w' xa/\rowSits (· < w.heap.size) w' G (some ⟨kb,ko,none⟩)/\Row w' ⟨Z,no,none⟩ (M.map str)/\Ext w w'/\(M.take j).find? (λs=>x.idx s)=none)
    (λj=>M.length-j) 0 sB ⟨gI _,ah,sx,O,U,X,rfl⟩ ?_
   rintro j w2 ⟨hj,hb,sx,O,U,X,N⟩;by_cases aa:j<M.length
   . have r1:Row w2 ⟨Z,no+j*1,none⟩ [str M[j]]:=by
      have:=U.sub j 1;rw [gW (by simpa using aa)] at this;simpa using this
     have ad:=Up aa N;have aj:x.idx M[j]=true->EM (DL G M)=(M[j],8):=λh=>af _ (Uq (ad.trans (AT h)))
     have HI:=fZ (Nq x Ab ae M[j]);generalize M[j]=y at *;generalize x.idx y=q at *
     focus
      refine kC (HI.out _ _ _ _ Af) ?_;rintro _ aq ⟨⟨⟩,ak⟩;revert hb sx O U X;refine eE ak ?_;intro hb sx O U X;refine cT (FD rfl (λal=>?_) (λal=>?_));refine kT ?_;rotate_left;refine Am (Ah (Ai (Ak (C1 V7 (C1 Mv (Al ?_))))));rotate_left
     . exact ⟨by rw [aj Af],X⟩
     . exact Av (j+1) sB ⟨Ab,hb,sx,O,U,X,ad.trans (AC (by simp [*]))⟩ Ab
   . obtain rfl:j=M.length:=by omega
     rw [gL] at N;refine cS (C1 V3 (cT (Aj (Dd (BF (Ay (Ay (AS (Ah (Ai (Ak (C1 V7 (C1 Mv (Al ?_))))))))))))));exact Av (i+1) sB ⟨Ab,O,U,X,Y.trans N⟩ Ab
 . obtain rfl:i=G.length:=by omega
   rw [gL] at N;have he:EM (DL G M)=([],0):=by rw [DL,N];rfl
   rw [he];refine kT ?_;exact ⟨rfl,X⟩
def Ur (t x:Nd) (a xa:oA) (c xc h:Nat) (w:wD) (G:Blk w h (x.cells xa xc)):Calls prog 181 #[t.val a c,.pointer (some ⟨h,0,none⟩)] w λe w'=>e = .returned (.bool (decide (t.name=x.name)))/\Ext w w':=by
 have X:=Ne w;refine Ad func181 ntmps181 rfl rfl (cS (eB [_,_,_,_] ?_));intro N O U M _ _;revert G X;refine eE M ?_;intro G X;refine kR ?_;exact ⟨rfl,X⟩
def RS (s:lB) (l:List Nd):Int:=match l.findIdx? (λt=>decide (t.name=s)) with
 | some i=>(i:Int)
 | none=> -1
def OC {f:α->Bool} {l:List α} (h:j<l.length) (M:(l.take j).findIdx? f=none):(l.take (j+1)).findIdx? f=if f l[j]=true then some j else none:=by
 rw [gC h,lH,M];by_cases G:f l[j]=true
 . simp [G,lR];omega
 . simp [G,lR]
def OD {f:α->Bool} {l:List α} {i:Nat} (h:(l.take j).findIdx? f=some i):l.findIdx? f=some i:=by
 rw [<-iT j l,lH,h];rfl
def Wa (l:List Nd) (hl:l.length<=1000000) (x:Nd) (S:nP) (a xa:oA) (c xc O:Nat) (w:wD) (G:rowSits S w l a) (U:Blk w O (x.cells xa xc)) :
 Calls prog 203 #[.slice a l.length c,.func (.func 181) #[] #[.pointer (some ⟨O,0,none⟩)]] w λe w'=>e = .returned (.int .i64 (RS x.name l))/\Ext w w':=by
 have X:=Ne w;have G:=B7 _ _ G;refine Ad func203 ntmps203 rfl rfl (cS (C1 Pa (cT (Aj (cS (C1 Mv (C1 Pz (C1 Mv (cT ?_)))))))));refine As ?_;refine AF (ι:=Nat) (λj=>[(0,.slice a l.length c),(1,.func (.func 181) #[] #[.pointer (some ⟨O,0,none⟩)]),(6,.slice a l.length c),(7,.int .i64 l.length),(8,.int .i64 j)])
  (λj w'=>j<=l.length/\rowSits (· < w.heap.size) w' l a/\Blk w' O (x.cells xa xc)/\Ext w w'/\(l.take j).findIdx? (λt=>decide (t.name=x.name))=none)
  (λj=>l.length-j) 0 sB ⟨gI _,G,U,X,rfl⟩ ?_
 rintro j w1 ⟨hj,G,U,X,M⟩;by_cases N:j<l.length
 . obtain ⟨kb,ko,rfl,kS,V⟩:=BJ G (by intro e;subst e;simp at N);obtain ⟨ya,yc,ry,sy⟩:=V j l[j] (fY N);have Y:=OC N M;have Z:l[j].name=x.name->RS x.name l=j:=λh=>by
    rw [AT (by simpa using h)] at Y;rw [RS,OD Y]
   generalize l[j]=y at *
   focus
    refine eK ?_;refine Az (Bb (fi:=[]) (ca:=[.pointer (some ⟨O,0,none⟩)]) AR rfl rfl (Ur _ x _ xa _ xc _ _ Af) (λ_ _ h=>⟨_,h.1⟩)) rfl ?_ aFh;rintro _ ac ⟨⟨⟩,aa⟩;revert U X G;refine eE aa ?_;intro U X G;refine cT (AA rfl (λab=>?_) (λab=>?_));refine kR ?_;rotate_left;refine Am (Ah (Ai (Ak (C1 V7 (C1 Mv (Al ?_))))));rotate_left
   . exact ⟨by rw [Z Af],X⟩
   . exact Av (j+1) sB ⟨Ab,G,U,X,Y.trans (AC (by simpa using Af))⟩ Ab
 . obtain rfl:j=l.length:=by omega
   rw [gL] at M;have he:RS x.name l = -1:=by rw [RS,M]
   rw [he];refine kR ?_;exact ⟨rfl,X⟩
def Wb (s:lB) (l:List Nd):decide (0<=RS s l)=l.any (λt=>decide (t.name=s)):=by
 unfold RS;cases h:l.findIdx? (λt=>decide (t.name=s)) with
 | none=>
  rw [List.findIdx?_eq_none_iff] at h;have:l.any (λt=>decide (t.name=s))=false:=by rw [List.any_eq_false];intro x G;simpa using h x G
  rw [this];rfl
 | some i=>
  have M:=List.findIdx?_eq_some_iff_getElem.1 h;obtain ⟨N,O,-⟩:=M;have:l.any (λt=>decide (t.name=s))=true:=lh.2 ⟨l[i],gK N,O⟩;rw [this];simp
def P2 (l:List Nd) (G:l.length<=1000000) (x:Nd) (S:nP) (a xa:oA) (c xc h:Nat) (w:wD) (N:rowSits S w l a) (O:Blk w h (x.cells xa xc)) :
 Calls prog 180 #[.slice a l.length c,.func (.func 181) #[] #[.pointer (some ⟨h,0,none⟩)]] w λe w'=>e = .returned (.bool (l.any λt=>decide (t.name=x.name)))/\Ext w w':=by
 have X:=Ne w;rw [<-Wb];refine Ad func180 ntmps180 rfl rfl (kC (Wa l G x _ _ xa _ xc _ _ Af Af) ?_);rintro _ U ⟨⟨⟩,M⟩;have X:=X.ext M;refine kR ?_;exact ⟨rfl,X⟩
def P3:List Nd->List Nd->Option lB
 | _,[]=>none
 | acc,t::r=>if acc.any (λu=>decide (u.name=t.name))=true then some t.name else P3 (acc++[t]) r
def Hb:Nd->lB×Int
 | .mk k _ s l=>
  if k=56 then ((l.getD 0 BS).name,9)
  else if 40<=k/\k<=42 then (if ((l.getD 0 BS).idx (l.getD 0 BS).name||(l.getD 1 BS).ment (l.getD 0 BS).name)=true then ((l.getD 0 BS).name,8) else ([],0))
  else if k=43 then EM (DL l [(l.getD 0 BS).name,(l.getD 1 BS).name])
  else if 44<=k/\k<=45 then EM (DL l [(l.getD 0 BS).name,s])
  else if 46<=k/\k<=49 then EM (DL l [(l.getD 0 BS).name])
  else if 50<=k/\k<=51 then EM (P3 [] l)
  else if k=52 then (if ((l.getD 3 BS).const.2 && !(l.getD 0 BS).const.2)=true then ([],10) else ([],0))
  else if k=53 then (if (l.getD 0 BS).const.2=true then ([],10) else ([],0))
  else ([],0)
def E5 (k n:Int) (s:lB) (l:List Nd):Hb (.mk k n s l)=if k=56 then ((l.getD 0 BS).name,9)
 else if 40<=k/\k<=42 then (if ((l.getD 0 BS).idx (l.getD 0 BS).name||(l.getD 1 BS).ment (l.getD 0 BS).name)=true then ((l.getD 0 BS).name,8) else ([],0))
 else if k=43 then EM (DL l [(l.getD 0 BS).name,(l.getD 1 BS).name])
 else if 44<=k/\k<=45 then EM (DL l [(l.getD 0 BS).name,s])
 else if 46<=k/\k<=49 then EM (DL l [(l.getD 0 BS).name])
 else if 50<=k/\k<=51 then EM (P3 [] l)
 else if k=52 then (if ((l.getD 3 BS).const.2 && !(l.getD 0 BS).const.2)=true then ([],10) else ([],0))
 else if k=53 then (if (l.getD 0 BS).const.2=true then ([],10) else ([],0))
 else ([],0):=rfl
def Jt {S:nP} {w:wD}:∀(l:List Nd) (i:Nat) (a:oA),rowSits S w l a->rowSits S w (l.take i) a
 | _,0,_,_=>by simp [rowSits]
 | [],_+1,_,_=>by simp [rowSits]
 | t::r,i+1,a,h=>by
  simp only [iU,rowSits] at h ⊢;obtain ⟨b,o,G,c,rfl,M,N,O,U,V,X,Y⟩:=h;exact ⟨b,o,G,c,rfl,M,N,O,U,V,X,Jt r i _ Y⟩
def Nd.good (t:Nd):Prop:=t.isStmt=true\/t.isBlock=true\/t.isExpr=true
def Us {t:Nd} (h:t.good) (M:40<=t.kind) (G:t.kind<=56):t.isStmt=true:=by
 rcases h with h|h|h
 . exact h
 . obtain ⟨e,-⟩:=DU h;rw [e] at G;simp only [mY] at G;omega
 . have:=Hw h;omega
def FL {t:Nd} (h:t.isPlace=true):t.okIdx:=by
 intro G e;have M:=Be h;obtain ⟨k,n,s,l⟩:=t;simp only [mY,nb] at G e;subst G e;rw [Nd.isExpr.eq_def] at M;simp at M
def P4 {k:Int} (h:(Nd.mk k n s l).isStmt=true) (G:k=56\/(40<=k/\k<=42)):∃x y,l=[x,y]/\x.isPlace=true/\y.isExpr=true:=by
 cases Cg h<;>first|omega|exact ⟨_,_,rfl,Af,Af⟩
def Ut (h:(Nd.mk 43 n s l).isStmt=true):∃x y,l=[x,y]/\x.isPlace=true/\y.isPlace=true:=by
 cases Cg h<;>first|omega|exact ⟨_,_,rfl,Af,Af⟩
def S9 {k:Int} (h:(Nd.mk k n s l).isStmt=true) (G:44<=k/\k<=49):∃x,l=[x]/\x.isPlace=true:=by
 cases Cg h<;>first|omega|exact ⟨_,rfl,Af⟩
def KI {k:Int} (h:(Nd.mk k n s l).isStmt=true) (G:k=52\/k=53):∃x y z u,l=[x,y,z,u]/\x.isExpr=true/\u.isExpr=true:=by
 cases Cg h<;>first|omega|exact ⟨_,_,_,_,rfl,Af,Af⟩
set_option maxHeartbeats 8000000 in
def Wc (t:Nd) (hz:t.size<=1000000) (hf:t.wf) (hg:t.good) (S:Nat->Prop) (a:Option Addr) (c:Nat) (w:World) (O:t.sits S w a) (aw:t.kids.length<=c):Calls prog 149 #[t.val a c] w λe w'=>e = .returned (.tuple #[str (Hb t).1,.int .i64 (Hb t).2])/\Ext w w':=by
 have bn:=Us hg;obtain ⟨k,n,s,l⟩:=t;replace O:=B7 _ _ (En O);have cl:=Co l;have HZ:=fZ (λx (hx:x∈l)=>CA hx)
 have dt:AY l<=1000000:=by simp only [mF] at hz;omega
 have HF:=fZ (λx (hx:x∈l)=>BN (by simp only [Nd.wf] at hf;exact hf.2.2.2.2.2.2) x hx);have HT:=fZ (λh1 h2=>bn h1 h2);simp only [mY] at HT;simp only [nb] at aw;have X:=Ne w
 show Calls prog 149 #[.agg #[.int .u8 k,.int .i64 n,str s,.slice a l.length c]] w _
 refine Ad func149 ntmps149 rfl rfl ?_
 focus
  refine cS (eB [_,_,_,_] ?_);intro b1 w2 M x5 p6 z7;revert O X;refine eE x5 ?_;intro O X;refine C1 Pa (C1 Pa (cT (Aj (cS (C1 Pg (C1 (Pl M) (cT (As (cS (C1 V1 (C1 Pa (cT (AA rfl (λc8=>?_) (λc8=>?_))))))))))))));rotate_left;refine Aj ?_;rotate_left
 . obtain ⟨x,y,rfl,hx,hy⟩:=P4 (HT.out Ab Ab) (gA Ab);obtain ⟨kb,ko,rfl,kS,N⟩:=BJ O AQ;obtain ⟨xa,xc,rx,sx⟩:=N 0 x rfl
   have he:Hb (.mk k n s [x,y])=(x.name,9):=by rw [E5,AT Ab];rfl
   rw [he];replace M:Blk w2 b1 [.int .u8 k,.int .i64 n,str s,.slice (some ⟨kb,ko,none⟩) 2 c]:=M
   refine cS (C1 Pf (C1 (Pl M) (C1 Pi (C1 Pf (C1 (Pw rx) (C1 Pa (C1 Pa (cT (AU (AJ (At (Bc rfl rfl rfl ?_))))))))))))
   exact ⟨rfl,X⟩
 refine Dv (ι:=Unit) (λ_=>[(1,.pointer (some ⟨b1,0,none⟩)),(10,.int .u8 k),(18,.bool (decide (40<=k/\k<=42)))]) (λ_ w'=>w'=w2) ?_ ?_
 . focus
    refine cS (C1 V1 (C1 Pa (cT (AA rfl (λbo=>?_) (λbo=>?_)))));refine Am ?_;rotate_left;refine cS (C1 V1 (C1 Pa (cT (AA rfl (λbp=>?_) (λbp=>?_)))));refine Am ?_;rotate_left;refine Ak (C1 V1 (C1 Pa (Al ?_)));rotate_left
   all_goals exact BC () (An rfl (An rfl (BO rfl (congrArg Value.bool (decide_eq_decide.2 Ab)) BE))) rfl
 rintro-u1 h;subst h
 focus
  refine AA rfl (λbq=>?_) (λbq=>?_);rotate_left;rotate_left
 . obtain ⟨x,y,rfl,hx,hy⟩:=P4 (HT.out Ab Ab) (gB Ab);obtain ⟨kb,ko,rfl,kS,N⟩:=BJ O AQ;obtain ⟨xa,xc,rx,sx⟩:=N 0 x rfl;obtain ⟨ya,yc,ry,sy⟩:=N 1 y rfl
   have he:Hb (.mk k n s [x,y])=if (x.idx x.name||y.ment x.name)=true then (x.name,8) else ([],0):=by rw [E5,AC Ab,AT Ab];rfl
   have HI:=fZ (Nq x (by have:=HZ.out x AQ;omega) (FL hx) x.name);have HM:=fZ (LN y (by have:=HZ.out y AQ;omega) x.name);rw [he]
   generalize x.idx x.name=q at *
   generalize y.ment x.name=p at *
   replace M:Blk u1 b1 [.int .u8 k,.int .i64 n,str s,.slice (some ⟨kb,ko,none⟩) 2 c]:=M
   focus
    refine cS (C1 Pf (C1 (Pl M) (C1 Pi (C1 Pf (C1 (Pw rx) (C1 Pa (cN (C1 Pf (C1 (Pl M) (C1 Pi (BQ [_,_,_,_] Ac rfl rfl rfl rx rfl rfl rfl (C1 Mv (cC rfl (HI.out _ _ _ _ Af) ?_)))))))))))));rintro _ du ⟨⟨⟩,br⟩;revert X ry sy M;refine eE br ?_;intro X ry sy M;refine C1 Mv (N8 rfl rfl rfl (λbs=>?_) (λbs=>?_));refine A7 rfl rfl rfl (Na Af) rfl (A7 rfl rfl rfl (Na Af) rfl (A7 rfl rfl rfl (Na Af) rfl (A7 rfl rfl rfl (Na Af) rfl (A7 rfl rfl rfl (Na Af) rfl (A7 rfl rfl rfl (Na Af) rfl (C1 (B3 rfl rfl Af) (cT (Bq rfl (cS (C1 Mv (C1 Pa (C1 Pa (cT (AU (AJ (At (Bc rfl rfl rfl ?_)))))))))))))))));rotate_left;refine AP rfl rfl rfl (Nb Af) (C1 Pf (AP rfl rfl rfl (Nb Af) (C1 (Pl M) (AP rfl rfl rfl (Nb Af) (C1 Pi (AP rfl rfl rfl (Nb Af) (C1 (Yd ry) (AP rfl rfl rfl (Nb Af) (C1 Mv (AP rfl rfl rfl (Nb Af) (cC rfl (HM.out _ _ _ _ Af) ?_)))))))))));rintro _ dv ⟨⟨⟩,bt⟩;replace X:=X.ext bt;refine C1 (Bu rfl rfl Af) ?_
    refine cT (FD rfl (λbu=>?_) (λbu=>?_));refine cS (C1 Mv (C1 Pa (C1 Pa (cT (AU (AJ (At (Bc rfl rfl rfl ?_))))))));rotate_left;refine Am (Ah (Ai (cS (C1 Pa (C1 Pa (cT (AU (Bc rfl rfl rfl ?_))))))));rotate_left
   all_goals exact ⟨by simp [*],X⟩
 focus
  refine cS (C1 V1 (C1 Pa (cT (AA rfl (λbv=>?_) (λbv=>?_)))));rotate_left;refine Aj ?_;rotate_left
 . have hk:k=43:=by assumption
   subst hk;obtain ⟨x,y,rfl,hx,hy⟩:=Ut (HT.out Ab Ab);obtain ⟨kb,ko,rfl,kS,N⟩:=BJ O AQ;obtain ⟨xa,xc,rx,sx⟩:=N 0 x rfl;obtain ⟨ya,yc,ry,sy⟩:=N 1 y rfl
   have he:Hb (.mk 43 n s [x,y])=EM (DL [x,y] [x.name,y.name]):=by rw [E5,AC Ab,AC Ab,AT Ab];rfl
   have HA:=fZ (OB [x,y] [x.name,y.name] Ab (λt ht=>by simp at ht;rcases ht with rfl|rfl<;>exact FL Af) AQ);rw [he];replace M:Blk u1 b1 [.int .u8 43,.int .i64 n,str s,.slice (some ⟨kb,ko,none⟩) 2 c]:=M
   focus
    refine Aj (Ap (λwz=>Ext u1 wz) 11 (.pure 0 (.pure 1 (.pure 2 (.pure 3 (.pure 4 (.pure 5 (.pure 6 (.pure 7 (.fork 8 (.fork 9 (.fork 10 .tail .none) .none) (.fork 9 (.fork 8 (.fork 10 .tail .none) .none) .none)))))))))) mixed AR (Aa (Ae (Aa Ag))) ?_);intro bw av _;have G:(λwz=>Ext u1 wz) bw:=av;simp only at G;have ao:=O;have aa:=rx;have ap:=sx;have ax:=ry;have cm:=sy;have U:=M;have dw:=av.size;revert X O M;refine eE av ?_;intro X O M;refine ⟨G,(Tq rfl Pf (Tq rfl (Db U) (Tq rfl Pi (Tq rfl (Dq [_,_,_,_] Ac rfl rfl rfl (λwz hz=>(mw aa hz)) rfl rfl) (Tq rfl Pf (Tq rfl (Db U) (Tq rfl Pi (Tq rfl (Bt Ac rfl rfl rfl (λwz hz=>(mw ax hz)) rfl) (Ax rfl (A3 Ca rfl) rfl ?_ aFh ?krf5)))))))))⟩;rintro _ dx ⟨dy,rfl,al⟩;have am:=al.blk;dsimp only at am;have ay:=al.ext;have cn:=al.pos;have co:=al.size;revert G X O M;refine eE ay ?_;intro G X O M;refine ⟨G,(Ax rfl (A3 Ca rfl) rfl ?_ aFh Au)⟩;rintro _ cp ⟨cq,rfl,ab⟩;have ac:=ab.blk;dsimp only at ac;have az:=ab.ext;have cr:=ab.pos;have ct:=ab.size;revert am G X O M;refine eE az ?_;intro am G X O M;refine ⟨G,?_⟩
    refine Ch [_,_,_,_] [_,_,_,_] rfl Ac rfl rfl rfl rfl rfl rfl am rfl rfl ?_ Au;intro cu af;have ag:=af.blk;have a0:=af.fr;have cv:=af.size;revert ac G X O M;refine eF a0 ?_;intro ac G X O M;refine ⟨G,(Aq rfl (eS [_,_,_,_] ac ?_))⟩;intro cw a1 a2 cx;revert ag X O M;refine eF a2 ?_;intro ag X O M;refine cN (C1 Pf (C1 (Pl M) (C1 Pf (C1 (Pl ag) (C1 Pf (C1 (Pl a1) (Az (C3 [_,_] Ac Ca rfl rfl rfl rfl rfl rfl rfl rfl rfl) rfl ?_ aFh)))))));rintro _ cy ⟨cz,rfl,aq,c0⟩;have c1:=aq.blk;have a3:=aq.ext;revert X O;refine eE a3 ?_;intro X O;refine cC rfl (HA.out _ _ _ _ _ _ _ Af (mJ Af)) ?_;rintro _ c2 ⟨⟨⟩,a4⟩;replace X:=X.ext a4;refine C1 Px (C1 Px (C1 Pa (C1 Pa (cT (AU (AJ (At (Bc rfl rfl rfl ?_))))))));rotate_left;refine Ax rfl (A3 Ca rfl) rfl ?_ aFh Au;rintro _ c3 ⟨c4,rfl,ad⟩;have Z:=ad.blk;dsimp only at Z;have a5:=ad.ext;have c5:=ad.pos;have c6:=ad.size;revert G X O M;refine eE a5 ?_;intro G X O M;refine ⟨G,(Ax rfl (A3 Ca rfl) rfl ?_ aFh Au)⟩
    rintro _ c7 ⟨c9,rfl,ae⟩;have ar:=ae.blk;dsimp only at ar;have a6:=ae.ext;have da:=ae.pos;have db:=ae.size;revert Z G X O M;refine eE a6 ?_;intro Z G X O M;refine ⟨G,(Ch [_,_,_,_] [_,_,_,_] rfl Ac rfl rfl rfl rfl rfl rfl ar rfl rfl ?_ Au)⟩;intro dc ah;have ai:=ah.blk;have a7:=ah.fr;have dd:=ah.size;revert Z G X O M;refine eF a7 ?_;intro Z G X O M;refine ⟨G,(Aq rfl (eS [_,_,_,_] Z ?_))⟩;intro de a8 a9 df;revert ai X O M;refine eF a9 ?_;intro ai X O M;refine cN (C1 Pf (C1 (Pl M) (C1 Pf (C1 (Pl ai) (C1 Pf (C1 (Pl a8) (Az (C3 [_,_] Ac Ca rfl rfl rfl rfl rfl rfl rfl rfl rfl) rfl ?_ aFh)))))));rintro _ dg ⟨dh,rfl,au,di⟩;have dk:=au.blk;have ba:=au.ext;revert X O;refine eE ba ?_;intro X O;refine cC rfl (HA.out _ _ _ _ _ _ _ Af (mJ Af)) ?_;rintro _ dl ⟨⟨⟩,bb⟩;replace X:=X.ext bb;refine C1 Px (C1 Px (C1 Pa (C1 Pa (cT (AU (AJ (At (Bc rfl rfl rfl ?_))))))));rotate_left
   all_goals exact ⟨rfl,X⟩
 refine Dv (ι:=Unit) (λ_=>[(1,.pointer (some ⟨b1,0,none⟩)),(10,.int .u8 k),(62,.bool (decide (44<=k/\k<=45)))]) (λ_ w'=>w'=u1) ?_ ?_
 . focus
    refine cS (C1 V1 (C1 Pa (cT (AA rfl (λbx=>?_) (λbx=>?_)))));refine Am ?_;rotate_left;refine Ak (C1 V1 (C1 Pa (Al ?_)));rotate_left
   all_goals exact BC () (An rfl (An rfl (BO rfl (congrArg Value.bool (decide_eq_decide.2 Ab)) BE))) rfl
 rintro-u2 h;subst h
 focus
  refine AA rfl (λbz=>?_) (λbz=>?_);rotate_left;refine Aj ?_;rotate_left
 . obtain ⟨x,rfl,hx⟩:=S9 (HT.out Ab Ab) Ab;obtain ⟨kb,ko,rfl,kS,N⟩:=BJ O AQ;obtain ⟨xa,xc,rx,sx⟩:=N 0 x rfl
   have he:Hb (.mk k n s [x])=EM (DL [x] [x.name,s]):=by rw [E5,AC Ab,AC Ab,AC Ab,AT Ab];rfl
   have HA:=fZ (OB [x] [x.name,s] Ab (λt ht=>by simp at ht;subst ht;exact FL hx) AQ);rw [he];replace M:Blk u2 b1 [.int .u8 k,.int .i64 n,str s,.slice (some ⟨kb,ko,none⟩) 1 c]:=M
   refine Aj (Ap (λwz=>Ext u2 wz) 13 (.pure 0 (.pure 1 (.pure 2 (.pure 3 (.pure 4 (.pure 5 (.pure 6 (.pure 7 (.pure 8 (.fork 9 (.fork 10 (.pure 11 (.pure 12 .tail)) .none) .none)))))))))) mixed AR (Aa (Ae (Aa Ag))) ?_);intro b0 bc _;have V:(λwz=>Ext u2 wz) b0:=bc;simp only at V;have ao:=O;have aa:=rx;have ap:=sx;have U:=M;revert X O;refine eE bc ?_;intro X O;refine ⟨V,(Tq rfl Pf (Tq rfl (Db U) (Tq rfl Pf (Tq rfl (Db U) (Tq rfl Pi (Tq rfl Pf (Tq rfl (Dr aa) (Tq rfl Pf (Tq rfl (Db U) (Ax rfl (C3 [_,_] Ac Ca rfl rfl rfl rfl rfl rfl rfl rfl rfl) rfl ?_ aFh Au))))))))))⟩;rintro _ dz ⟨d0,rfl,bd,d1⟩;have dm:=bd.blk;have be:=bd.ext;revert V X O;refine eE be ?_;intro V X O;refine ⟨V,(Ax rfl (AM AR rfl (HA.out _ _ _ _ _ _ _ Af (mJ Af)) (λ_ _ h=>⟨_,h.1⟩)) rfl ?_ aFh Au)⟩;rintro _ dn ⟨⟨⟩,bf⟩;revert V X;refine eE bf ?_;intro V X;refine ⟨V,(Tq rfl Px (Tq rfl Px (Aq rfl (C1 Pa (C1 Pa (cT (AU (AJ (At (Bc rfl rfl rfl ?_))))))))))⟩
   all_goals exact ⟨rfl,X⟩
 refine Dv (ι:=Unit) (λ_=>[(1,.pointer (some ⟨b1,0,none⟩)),(10,.int .u8 k),(78,.bool (decide (46<=k/\k<=49)))]) (λ_ w'=>w'=u2) ?_ ?_
 . focus
    refine cS (C1 V1 (C1 Pa (cT (AA rfl (λb2=>?_) (λb2=>?_)))));refine Am ?_;rotate_left;refine cS (C1 V1 (C1 Pa (cT (AA rfl (λb3=>?_) (λb3=>?_)))));refine Am ?_;rotate_left;refine cS (C1 V1 (C1 Pa (cT (AA rfl (λb4=>?_) (λb4=>?_)))));refine Am ?_;rotate_left;refine Ak (C1 V1 (C1 Pa (Al ?_)));rotate_left
   all_goals exact BC () (An rfl (An rfl (BO rfl (congrArg Value.bool (decide_eq_decide.2 Ab)) BE))) rfl
 rintro-u3 h;subst h
 focus
  refine AA rfl (λb5=>?_) (λb5=>?_);rotate_left;refine Aj ?_;rotate_left
 . obtain ⟨x,rfl,hx⟩:=S9 (HT.out Ab Ab) Ab;obtain ⟨kb,ko,rfl,kS,N⟩:=BJ O AQ;obtain ⟨xa,xc,rx,sx⟩:=N 0 x rfl
   have he:Hb (.mk k n s [x])=EM (DL [x] [x.name]):=by rw [E5,AC Ab,AC Ab,AC Ab,AC Ab,AT Ab];rfl
   have HA:=fZ (OB [x] [x.name] Ab (λt ht=>by simp at ht;subst ht;exact FL hx) AQ);rw [he];replace M:Blk u3 b1 [.int .u8 k,.int .i64 n,str s,.slice (some ⟨kb,ko,none⟩) 1 c]:=M
   refine Aj (Ap (λwz=>Ext u3 wz) 11 (.pure 0 (.pure 1 (.pure 2 (.pure 3 (.pure 4 (.pure 5 (.pure 6 (.fork 7 (.fork 8 (.pure 9 (.pure 10 .tail)) .none) .none)))))))) mixed AR (Aa (Ae (Aa Ag))) ?_);intro b6 bg _;have Y:(λwz=>Ext u3 wz) b6:=bg;simp only at Y;have ao:=O;have aa:=rx;have ap:=sx;have U:=M;revert X O;refine eE bg ?_;intro X O;refine ⟨Y,(Tq rfl Pf (Tq rfl (Db U) (Tq rfl Pf (Tq rfl (Db U) (Tq rfl Pi (Tq rfl Pf (Tq rfl (Dr aa) (Ax rfl (C3 [_] Ac Ca rfl rfl rfl rfl rfl rfl rfl rfl rfl) rfl ?_ aFh Au))))))))⟩;rintro _ d2 ⟨d3,rfl,bh,d4⟩;have dp:=bh.blk;have bi:=bh.ext;revert Y X O;refine eE bi ?_;intro Y X O;refine ⟨Y,(Ax rfl (AM AR rfl (HA.out _ _ _ _ _ _ _ Af (mJ Af)) (λ_ _ h=>⟨_,h.1⟩)) rfl ?_ aFh Au)⟩;rintro _ dq ⟨⟨⟩,bj⟩;revert Y X;refine eE bj ?_;intro Y X;refine ⟨Y,(Tq rfl Px (Tq rfl Px (Aq rfl (C1 Pa (C1 Pa (cT (AU (AJ (At (Bc rfl rfl rfl ?_))))))))))⟩
   all_goals exact ⟨rfl,X⟩
 refine Dv (ι:=Unit) (λ_=>[(1,.pointer (some ⟨b1,0,none⟩)),(10,.int .u8 k),(94,.bool (decide (50<=k/\k<=51)))]) (λ_ w'=>w'=u3) ?_ ?_
 . focus
    refine cS (C1 V1 (C1 Pa (cT (AA rfl (λb7=>?_) (λb7=>?_)))));refine Am ?_;rotate_left;refine Ak (C1 V1 (C1 Pa (Al ?_)));rotate_left
   all_goals exact BC () (An rfl (An rfl (BO rfl (congrArg Value.bool (decide_eq_decide.2 Ab)) BE))) rfl
 rintro-u4 h;subst h
 focus
  refine AA rfl (λb8=>?_) (λb8=>?_);rotate_left;rotate_left
 . have he:Hb (.mk k n s l)=EM (P3 [] l):=by rw [E5,AC Ab,AC Ab,AC Ab,AC Ab,AC Ab,AT Ab]
   rw [he]
   refine cS (C1 Pf (C1 (Pl M) (C1 Pz (C1 Mv (cT ?_)))))
   refine As ?_;refine AF (ι:=Nat) (λi=>[(1,.pointer (some ⟨b1,0,none⟩)),(98,.slice a l.length c),(99,.int .i64 l.length),(100,.int .i64 i)])
    (λi w'=>i<=l.length/\Blk w' b1 [.int .u8 k,.int .i64 n,str s,.slice a l.length c]/\rowSits (· < w.heap.size) w' l a/\Ext w w'/\P3 [] l=P3 (l.take i) (l.drop i))
    (λi=>l.length-i) 0 sB ⟨gI _,M,O,X,AQ⟩ ?_
   rintro i v1 ⟨hi,M,O,X,hd⟩;have d5:=M.lt
   by_cases an:i<l.length
   . obtain ⟨kb,ko,rfl,kS,N⟩:=BJ O (by intro e;subst e;simp at an);obtain ⟨xa,xc,rx,sx⟩:=N i l[i] (fY an);rw [gW an,P3] at hd;have b9:l.take i++[l[i]]=l.take (i+1):=(gC an).symm
     have ca:(l.take i).length=i:=by simp;omega
     have hm:(i:Int)=(i:Int):=rfl;have aj:=Jt l i _ O;have HC:=fZ (P2 (l.take i) Ab l[i]);rw [ca] at HC;rw [b9] at hd
     generalize l[i]=x at *
     generalize (l.take i).any (λt=>decide (t.name=x.name))=q at *
     focus
      refine cS (C1 V3 (cT (Aj (Ll (Am (Ai (Aj (As (cS (C1 Mv (C1 Pi (C1 (Yd rx) (eA [_,_,_,_] ?_)))))))))))));intro d6 d7 cb cc d8 d9;revert X M O aj;refine eE cc ?_;intro X M O aj;refine C1 Pa (eS [_,_,_,_] cb ?_);intro ea ak bk dr;revert X M O aj;refine eF bk ?_;intro X M O aj;refine cN (C1 Pf (C1 (Pl M) (C1 Mv (C1 (Dn Ac rfl rfl rfl rfl hm Ab) (C1 (BW rfl) (cC rfl (HC.out _ _ _ _ _ _ _ aj Af) ?_))))));rintro _ ds ⟨⟨⟩,bl⟩;revert ak X M O;refine eE bl ?_;intro ak X M O;refine cT (FD rfl (λbm=>?_) (λbm=>?_));refine cS (C1 Pf (C1 (Pl ak) (C1 Pa (C1 Pa (cT (AU (AJ (At (At (AJ (AJ (At (Bc rfl rfl rfl ?_)))))))))))));rotate_left;refine Am (Ah (Ai (Ak (C1 V7 (C1 Mv (Al ?_))))));rotate_left
     . rw [AT Af] at hd
       exact ⟨by rw [hd];rfl,X⟩
     . rw [AC (by simp [*])] at hd
       exact Av (i+1) sB ⟨Ab,M,O,X,hd⟩ Ab
   . obtain rfl:i=l.length:=by omega
     rw [lk,P3] at hd;rw [hd]
     refine cS (C1 V3 (cT (Aj (Dd (BF (Ay (Ay (AS (Ah (Ai (cS (C1 Pa (C1 Pa (cT (AU (Bc rfl rfl rfl ?_))))))))))))))))
     exact ⟨rfl,X⟩
 focus
  refine cS (C1 V1 (C1 Pa (cT (AA rfl (λcd=>?_) (λcd=>?_)))));rotate_left;rotate_left
 . obtain ⟨x,y,z,u,rfl,hx,hu⟩:=KI (HT.out Ab Ab) Ab;obtain ⟨kb,ko,rfl,kS,N⟩:=BJ O AQ;obtain ⟨xa,xc,rx,sx⟩:=N 0 x rfl;obtain ⟨ua,uc,ru,su⟩:=N 3 u rfl
   have he:Hb (.mk k n s [x,y,z,u])=if (u.const.2 && !x.const.2)=true then ([],10) else ([],0):=by rw [E5,AC Ab,AC Ab,AC Ab,AC Ab,AC Ab,AC Ab,AT Ab];rfl
   have HX:=fZ (IS x (by have:=HZ.out x AQ;omega) (HF.out x AQ));have HU:=fZ (IS u (by have:=HZ.out u AQ;omega) (HF.out u AQ));rw [he]
   generalize x.const.2=q at *
   generalize u.const.2=p at *
   replace M:Blk u4 b1 [.int .u8 k,.int .i64 n,str s,.slice (some ⟨kb,ko,none⟩) 4 c]:=M
   focus
    refine cS (C1 Pf (C1 (Pl M) (C1 Pi (C1 (Yd ru) (cC rfl (HU.out _ _ _ _ su) ?_)))));rintro _ eb ⟨⟨⟩,ce⟩;revert X rx sx M;refine eE ce ?_;intro X rx sx M;refine C1 Mv (N8 rfl rfl rfl (λcf=>?_) (λcf=>?_));refine AP rfl rfl rfl (G3 Af) (C1 Pf (AP rfl rfl rfl (G3 Af) (C1 (Pl M) (AP rfl rfl rfl (G3 Af) (C1 Pi (AP rfl rfl rfl (G3 Af) (BQ [_,_,_,_] Ac rfl rfl rfl rx rfl rfl rfl (AP rfl rfl rfl (G3 Af) (cC rfl (HX.out _ _ _ _ sx) ?_)))))))));rintro _ ec ⟨⟨⟩,cg⟩;replace X:=X.ext cg;refine AP rfl rfl rfl (G3 Af) (C1 Pt (C1 (B3 rfl rfl Af) (cT (I9 rfl (λch=>?_) (λch=>?_)))));refine cS (C1 Pa (C1 Pa (cT (AU (AJ (At (Bc rfl rfl rfl ?_)))))));rotate_left;refine Am (Ah (Ai (cS (C1 Pa (C1 Pa (cT (AU (Bc rfl rfl rfl ?_))))))));rotate_left;refine A7 rfl rfl rfl (G4 Af) rfl (A7 rfl rfl rfl (G4 Af) rfl (A7 rfl rfl rfl (G4 Af) rfl (A7 rfl rfl rfl (G4 Af) rfl (A7 rfl rfl rfl (G4 Af) rfl (A7 rfl rfl rfl (G4 Af) rfl ?_)))))
    refine C1 (Bu rfl rfl Af) (cT (AO rfl (Am (Ah (Ai (cS (C1 Pa (C1 Pa (cT (AU (Bc rfl rfl rfl ?_)))))))))));rotate_left
   all_goals exact ⟨by simp [*],X⟩
 focus
  refine cS (C1 V1 (C1 Pa (cT (AA rfl (λci=>?_) (λci=>?_)))));rotate_left;refine Am (Ah (Ai (cS (C1 Pa (C1 Pa (cT (AU (Bc rfl rfl rfl ?_))))))));rotate_left
 . obtain ⟨x,y,z,u,rfl,hx,hu⟩:=KI (HT.out Ab Ab) Ab;obtain ⟨kb,ko,rfl,kS,N⟩:=BJ O AQ;obtain ⟨xa,xc,rx,sx⟩:=N 0 x rfl
   have he:Hb (.mk k n s [x,y,z,u])=if x.const.2=true then ([],10) else ([],0):=by rw [E5,AC Ab,AC Ab,AC Ab,AC Ab,AC Ab,AC Ab,AC Ab,AT Ab];rfl
   have HX:=fZ (IS x (by have:=HZ.out x AQ;omega) (HF.out x AQ));rw [he]
   generalize x.const.2=q at *
   replace M:Blk u4 b1 [.int .u8 k,.int .i64 n,str s,.slice (some ⟨kb,ko,none⟩) 4 c]:=M
   focus
    refine cS (C1 Pf (C1 (Pl M) (C1 Pi (BQ [_,_,_,_] Ac rfl rfl rfl rx rfl rfl rfl (cC rfl (HX.out _ _ _ _ sx) ?_)))));rintro _ ed ⟨⟨⟩,cj⟩;replace X:=X.ext cj;refine cT (FD rfl (λck=>?_) (λck=>?_));refine cS (C1 Pa (C1 Pa (cT (AU (AJ (At (Bc rfl rfl rfl ?_)))))));rotate_left;refine Am (Ah (Ai (cS (C1 Pa (C1 Pa (cT (AU (Bc rfl rfl rfl ?_))))))));rotate_left
   all_goals exact ⟨by simp [*],X⟩
 . have he:Hb (.mk k n s l)=([],0):=by rw [E5,AC Ab,AC Ab,AC Ab,AC Ab,AC Ab,AC Ab,AC Ab,AC Ab]
   rw [he]
   exact ⟨rfl,X⟩
def rejShape:Shape Int where
 sz:=4
 rep _ _ x cs:= ∃(p:Int) (pa:oA) (pn pc:Nat) (s:lB),cs=[.int .i64 p,.slice pa pn pc,.int .i64 x,str s]
 len h:=by obtain ⟨_,_,_,_,_,rfl⟩:=h;rfl
 one h:=by obtain ⟨_,_,_,_,_,rfl⟩:=h;rfl
 mono h _ _:=h
 lt h:=h
def Ce (l:List Nd):List Int:=(l.map λm=>(Hb m).2).filter (λe=>decide (e≠0))
def P5 (l:List Nd) (x:Nd):Ce (l++[x])=if (Hb x).2=0 then Ce l else Ce l++[(Hb x).2]:=by
 unfold Ce;rw [jE,List.filter_append];by_cases h:(Hb x).2=0
 . rw [AT h];simp [h]
 . rw [AC h];simp [h]
def GL (l:List Nd):(Ce l).length<=l.length:=by
 unfold Ce;exact jR (List.length_filter_le _ _) AQ
mutual
def Hc:∀t:Nd,t.walk.length=t.size
 | .mk k n s l=>by simp only [Nd.walk,mF,gH,KJ l];omega
def KJ:∀l:List Nd,(BX l).length=AY l
 | []=>rfl
 | t::r=>by simp only [BX,AY,gR,Hc t,KJ r]
end
def ChkR (xs:List Int) (w:wD):Ending->wD->Prop:=λe w'=> ∃a c,e = .returned (.slice a xs.length c)/\OwnQ rejShape w' (λ_=>False) w.heap.size 140 (.slice a xs.length c) xs/\Ext w w'/\(xs=[]->a=none/\c=0)
def ChkR.ret {xs:List Int} (h:ChkR xs w e w'):∃v,e = .returned v:=by
 obtain ⟨_,_,h,-⟩:=h;exact ⟨_,h⟩
def Ta (p:Int) (t:Nd) (hz:t.size<=1000000) (U:∀x∈t.walk,x.good/\x.wf/\x.size<=1000000) (S:nP) (a:oA) (c:Nat) (w:wD) (hs:t.sits S w a) :
 Calls prog 110 #[.int .i64 p,t.val a c] w (ChkR (Ce t.walk) w):=by
 have HG:=fZ U;have X:=Ne w;refine Gf (args:=[_,_]) func110 ntmps110 rfl rfl (cS (eB [_] ?_));intro b1 w2 h4 x5 p6 z7;revert hs X;refine eE x5 ?_;intro hs X;refine eB [_,_,_,_] ?_;intro b8 w9 am ar be bf;revert h4 hs X;refine eE ar ?_;intro h4 hs X;refine eK ?_;refine eA [_] ?_;intro ak au al av bg z22;revert am h4 hs X;refine eE av ?_;intro am h4 hs X;refine kQ (VV _ hz _ _ _ _ Af) ?_;rintro _ ab ⟨a6,⟨⟩,aw,ax⟩;revert al h4 X;refine eY ax ?_;intro bh al h4 X;refine cT ?_;refine As ?_;refine P0 rfl rfl rfl AR aw (λ_ _ _ _ h=>ZS h) (λk G=>G.2)
  (λA xs W=> ∃Y Z,Blk W ak [.slice Y (Ce xs).length Z]/\OwnQ rejShape W (λ_=>False) w.heap.size 140 (.slice Y (Ce xs).length Z) (Ce xs)/\(∀g,(iA Y (Ce xs).length Z).ownBlock=some g -> ¬A g/\ab.heap.size<=g)/\Blk W b1 [.int .i64 p]/\Ext w W/\(Ce xs=[]->Y=none/\Z=0))
  (λ_ _ _=>False) ?_ (λ_ _ _ _ _ h=>h.elim) ⟨none,0,al,OwnQ.nil,λg U=>by simp [kw] at U,h4,X,λ_=>⟨rfl,rfl⟩⟩ ?_ ?_ (λ_ _ _ _ _ h=>h.elim)
 . rintro A A' xs W W' ⟨Y,Z,h1,h2,h3,h4,x,h5⟩ hf hA-ay;exact ⟨Y,Z,h1.fr hf (λe=>by have:=hA _ e;omega),h2.fr hf (λk G=>⟨id,λe=>(h3 k e).1 G⟩),λg U=>⟨λe=>(h3 g U).1 (ay g (h2.lt U) e),(h3 g U).2⟩,h4.fr hf (λe=>by have:=hA _ e;omega),mI x hf (λk G=>by have:=hA _ G;omega),h5⟩
 . rintro r A pre x u v W hA an ⟨Y,Z,V,j2,j3,O,N,j5⟩ ⟨pa,pn,pc,xa,xc,e,sx,a7⟩ ag;simp only [iP,and_true] at e;obtain ⟨rfl,rfl⟩:=e;have bi:=hA _ an;obtain ⟨g1,g2,g3⟩:=HG.out x (by obtain ⟨q,hq⟩:=ag;rw [<-hq];simp);have a8:(Ce pre).length<=1000000:=by
    have h1:=GL pre;have h2:=ag.length_le;rw [Hc] at h2;simp only [gR,gH,iM] at h2;omega
   have M:∀g,(iA Y (Ce pre).length Z).ownBlock=some g -> ¬A g/\ab.heap.size<=g/\g<W.heap.size:=λg U=>⟨(j3 g U).1,(j3 g U).2,j2.lt U⟩
   have ao:=P5 pre x;have HR:=fZ (Wc x g3 g2 g1);have X1:=Ne W;refine C8 (Br rfl (Bx Gg) (C1 Pa (Al (Cn (Br rfl Gg (Ei [_,_,_,_] Ca rfl rfl ?_))))));intro bj bk az;refine eI [_,_,_,_] az ?_;intro bl ae a0 bm bn;revert V j2 O N sx X1;refine eE a0 ?_;intro V j2 O N sx X1;refine Al (Ic (Keeps.of_ext X1) λW2 f2=>?_)
   have a1:∀k,k=ab.heap.size+1 -> ¬False/\(iA Y (Ce pre).length Z).ownBlock≠some k:=λk e=>⟨id,λh=>(M k h).1 (e▸an)⟩
   revert ae V;refine eF f2 ?_;intro ae V;replace j2:=j2.fr f2 a1;replace O:=O.fr f2 Ab;replace N:=mI N f2 (λk G=>by omega);replace sx:=sx.fr f2 (λb hb e=>by omega);have bo:=f2.size;have a2:∀k,A k->ab.heap.size<=k/\k<W2.heap.size:=λk G=>by have:=hA k G;omega
   have HA:=fZ a2;generalize Hb x=ev at *;obtain ⟨en,ec⟩:=ev;dsimp only at ao HR;have HN:=fZ ao;have X3:=mx (λk=>k=ak\/(iA Y (Ce pre).length Z).ownBlock=some k) W2;have hK:∀k,A k\/(au.heap.size<=k/\k<ab.heap.size) -> ¬(k=ak\/(iA Y (Ce pre).length Z).ownBlock=some k):=λk G h=>by
    rcases h with h|h
    . rcases G with G|G
      . have:=HA.out k G;omega
      . omega
    . rcases G with G|G
      . exact (M k h).1 G
      . have:=M k h;omega
   by_cases he:ec=0
   . have hN:=HN.out;rw [AT he] at hN;subst he;refine Ge (C8 (Br rfl (Bx (Bz BV)) (AH [_,_,_,_] Ac rfl rfl rfl ae rfl rfl rfl (cC rfl (HR.out _ _ _ _ Af Ab) ?_))));rintro _ bp ⟨⟨⟩,a3⟩;revert V j2 O N X3;refine eE a3 ?_;intro V j2 O N X3;refine C1 Mv (C1 Px (C1 Px (C1 Pa (C1 Pa (Al (Cn (C8 (Br rfl (Bx (Bz BV)) (C1 Mv (C1 V2 (Al (Cn (ZR rfl C2 (FK (Ah ?_)))))))))))))));exact IQ (Keeps.of_fr X3 hK) ⟨Y,Z,by rw [hN];exact V,by rw [hN];exact j2,by rw [hN];exact λg U=>⟨(M g U).1,(M g U).2.1⟩,O,N,by rw [hN];exact j5⟩
   . have hN:=HN.out;rw [AC he] at hN;refine Ge (C8 (Br rfl (Bx (Bz BV)) (AH [_,_,_,_] Ac rfl rfl rfl ae rfl rfl rfl (cC rfl (HR.out _ _ _ _ Af Ab) ?_))));rintro _ bq ⟨⟨⟩,a4⟩;revert V j2 O N X3;refine eY a4 ?_;intro br V j2 O N X3;refine C1 Mv (C1 Px (C1 Px (C1 Pa (C1 Pa (Al (Cn (C8 (Br rfl (Bx (Bz BV)) (C1 Mv (C1 V2 (Al (Cn (VX rfl Af (Br rfl (Bz BV) (eK ?_)))))))))))))));refine C1 (DS [_,_,_,_] Ac Ca rfl rfl rfl rfl) (Az (C3 [_,_,_,_] Ac Ca rfl rfl rfl rfl rfl rfl rfl rfl rfl) rfl ?_ aFh);rintro _ bs ⟨bt,rfl,af,bu⟩;have bv:=af.blk;have a5:=af.ext;have a9:=af.pos;have ba:=af.size;revert V j2 O N X3;refine eE a5 ?_;intro V j2 O N X3;refine C9 (R:=λ_=>False) (sh:=rejShape) (z:=ec) Ac Ca rfl rfl rfl rfl AR rfl rfl rfl Af (λ_ h=>by exact h) (mJ Af) ⟨_,_,_,_,_,rfl⟩ Ab Ab rfl ?_;rintro ac ad bb ah ai bc aa;replace V:=mu V aa (λh=>by have:=M _ h;omega);replace O:=mu O aa (λh=>by have:=M _ h;omega);replace N:=mI N aa (λk G=>by have:=M _ G;omega);replace X3:=mB X3 aa (λk G=>gA (gB G));refine eS [_] V ?_;intro bd ap aj _;replace ah:=OwnQ.fr ah aj (λk G=>⟨id,λe=>by (obtain rfl:=gJ (show some ac=some k from e);rcases ai with h|h;have:=M _ h;omega;omega)⟩);revert O N X3;refine eF aj ?_;intro O N X3;refine Al (Ah ?_)
     refine IQ (Keeps.of_fr X3 hK) ⟨some ⟨ac,0,none⟩,ad,by rw [hN];exact ap,by rw [hN];assumption,λg U=>?_,O,N,λe=>by rw [hN] at e;simp at e⟩;obtain rfl:=gJ (show some ac=some g from U);rcases ai with h|h
     . exact ⟨(M _ h).1,(M _ h).2.1⟩
     . exact ⟨λhA=>by have:=HA.out _ hA;omega,Ab⟩
 . rintro A W hA ⟨Y,Z,V,j2,j3,O,N,j5⟩ hm G;refine Id (Dw (H7 (Ep (Fs (Ar Ac rfl rfl rfl (λwz hz=>by rw [show wz=W from hz];exact V.cell rfl)) rfl (Fs (Gs rfl) rfl (GI (Dw (Jr (PY G rfl rfl (λw2 aq=>?_))))))))));exact ⟨Y,Z,rfl,j2.fr aq (λk e=>⟨id,λh=>(j3 k h).1 (e▸hm)⟩),mI N aq (λk e=>by omega),j5⟩
def Df {P:Program} {n:Nat} {l:Sl} {tab:Tab} {sz:Nat} {fn:Func} {R:Ending->wD->Prop} {b s:Nat} {V:Sk} {vs:lV} {v3:Value} (h:fn.results = #[.cell j c,.tmp s]) (T:TabOk P tab) (X:AB tab c=some (V,sz)) (Y:V.agg=true) (Z:look l j=some (.pointer (some ⟨b,0,none⟩))) (hb:Blk w b vs) (hl:vs.length=sz)
 (hz:look l s=some v3) (hR:R (.returned (.tuple #[.agg vs.toArray,v3])) w):QW n (bodyPost P fn R) .ret l w:=by
 unfold QW;intro a U;refine ⟨U.defers,.tuple #[.agg vs.toArray,v3],?_,hR⟩;have e:(loadVar c ⟨b,0,none⟩).run P w = .ok (.agg vs.toArray) w:=by
  simp only [gO,hH,gF,loadVar,Cq (T _ _ _ X),Y,if_true,B0 (T _ _ _ X)];rw [<-hl,Ct hb.row]
 have M:=U.has j _ Z;have N:=U.has s _ hz;simp only [jC] at M N;simp [results,h,M,N,e,asAddr]
def Wd (q:Bool) (t:Nd) (h:t.size<=1000000) (G:t.isStmt=true\/t.isBlock=true) (S:nP) (a:oA) (c:Nat) (w:wD) (M:t.sits S w a):Calls prog 111 #[t.val a c,.bool q] w (CopyR (t.inv q) w):=VQ q (t.size+1) t S a c w Ab h G M
def We:VD:=⟨[],0,0⟩
def RT {l:List VD} (h:j<l.length) (s:lB):D6 (l.take (j+1)) s=if l[j].name=s then some l[j] else D6 (l.take j) s:=by
 unfold D6;rw [gC h,List.reverse_append,List.reverse_singleton,lE,List.find?_cons];by_cases G:l[j].name=s
 . simp [G]
 . simp [G]
def VDs.get {l:List VD} (h:VDs S w l a) (G:l≠[]):∃b o,a=some ⟨b,o,none⟩/\S b /\ ∀i v,l[i]? = some v->Row w ⟨b,o+i*3,none⟩ v.cells:=by
 rcases h with h|⟨b,o,M,N,O⟩
 . exact absurd h G
 . exact ⟨b,o,M,N,λi v U=>O i v U⟩
def VDs.ltV {l:List VD} (h:VDs S w l a):VDs (· < w.heap.size) w l a:=h.lt2.wide λ_ h=>h.2
def OE (l:List VD) (hl:l.length<=1000000) (s:lB) (S:nP) (a:oA) (c:Nat) (w:wD) (h:VDs S w l a) :
 Calls prog 141 #[.slice a l.length c,str s] w λe w'=>e = .returned (.tuple #[((D6 l s).getD We).val,.bool (D6 l s).isSome])/\Ext w w':=by
 have X:=Ne w;have h:=h.ltV;refine Ad func141 ntmps141 rfl rfl (cS (eA [_,_,_] ?_));intro b1 w2 h5 x6 p7 z8;revert X h;refine eE x6 ?_;intro X h;refine eK ?_;refine C1 (AL rfl rfl (gG _ Ab)) (C1 Pa (cT ?_));refine As ?_;refine AF (ι:=Nat) (λj=>[(0,.slice a l.length c),(1,str s),(4,.pointer (some ⟨b1,0,none⟩)),(6,.int .i64 ((j:Int)-1))])
  (λj w'=>j<=l.length/\VDs (· < w.heap.size) w' l a/\Blk w' b1 [.string ⟨#[]⟩,.int .u8 0,.int .i64 0]/\Ext w w'/\D6 l s=D6 (l.take j) s)
  (λj=>j) l.length sB ⟨gP _,h,h5,X,by rw [gL]⟩ ?_
 rintro j w1 ⟨hj,h,O,X,G⟩;cases j with
 | zero=>
  have e0:D6 l s=none:=by rw [G];rfl
  rw [e0];refine eK ?_;refine C1 (xB [_,_,_]) (eS [_,_,_] O ?_);intro aa ab U _;have X:=X.fr U Ab;refine eK ?_;refine Df rfl Ac rfl rfl rfl Af rfl rfl ?_;exact ⟨rfl,X⟩
 | succ j=>
  have M:j<l.length:=by omega
  obtain ⟨kb,ko,rfl,kS,N⟩:=h.get (by intro e;subst e;simp at M);have r0:=N j l[j] (fY M);have hn:=RT M s;rw [hn] at G;generalize l[j]=v at *;have V:(((j+1:Nat):Int)-1)=(j:Int):=by omega
  obtain ⟨vn,vk,vl⟩:=v;replace r0:Row w1 ⟨kb,ko+j*3,none⟩ [str vn,.int .u8 vk,.int .i64 vl]:=r0;dsimp only at G;rw [V]
  focus
   refine eK ?_;refine AA rfl (λY=>?_) (λY=>?_);refine eK ?_;refine eS [_,_,_] O ?_;intro ac ad Z _;have X:=X.fr Z Ab;refine eK ?_;rotate_left;refine eK ?_;refine C1 (AL rfl rfl (gG _ Ab)) (C1 Pa (Al ?_));rotate_left
  . refine Df rfl Ac rfl rfl rfl Af rfl rfl ?_;rw [AT Af] at G;rw [G];exact ⟨rfl,X⟩
  . rw [AC Af] at G;exact Av j sB ⟨Ab,h,O,X,G⟩ Ab
section
variable {P:Program} {n:Nat} {l:Sl} {S:wD->Prop} {tab:Tab} {zt:Ee} {ty:TypeId}
def P6 {x y z:Operand} {t e sz len cap:Nat} {sE:Sk} {k N:IntKind} (T:TabOk P tab) (Y:AB tab t=some (.slice e,j)) (Z:AB tab e=some (sE,sz)) (hx:ev l x=some (.slice a len cap)) (hy:ev l y=some (.int k (len:Int))) (hz:ev l z=some (.int N (len:Int))) (hm:len<=cap) :
 Bm P n l S (.slice t x none (some y) (some z)) ty (.slice a len len):=by
 unfold Bm;intro aa w ab pos after g O _;have V:P.underlying t=some (.slice e):=(T _ _ _ Y).under;have h:P.elem t=e:=by simp [Program.elem,V]
 have G:P.underlying t=some (.slice (P.elem t)):=by rw [h];exact V
 obtain ⟨i,hi,hs⟩:=(T _ _ _ Z).info;have U:(Go.sizeOf e).run P w = .ok sz w:=by simp [Go.sizeOf,typeInfo,program,kV,bind,Sem.bind,pure,hi,hs]
 have h1:(Instr.sliceAt t (.slice a len cap) none (some (.int k (len:Int))) (some (.int N (len:Int)))).run P w = .ok (.slice a len len) w:=by
  rw [run_sliceAt_slice w t _ _ _ _ G,run_slice_hm w t a len cap G k N len len Ab Ab Ab];rw [h,U];simp only [gF,sliced,Int.toNat_natCast,kP,lK];by_cases X:len=0
  . rw [AT X]
  . rw [AC X];cases a<;>simp [jY]
 simp [execOp,O.ev hx,O.ev hy,O.ev hz,gO,h1,gF]
def CX {x y:Operand} {t e sz1 sz m cap:Nat} {sE:Sk} {zs:lV} {p:Addr} {cs us:lV} {R:nP} (T:TabOk P tab) (Z:Cj P zt) (ht:AB tab t=some (.slice e,sz1)) (hE:AB tab e=some (sE,sz)) (hz:CC zt e=some zs) (hzl:zs.length=sz)
 (hby:Dk P e=true) (hsz:iC 0 sz=true) (hx:ev l x=some (.slice a m m)) (hy:ev l y=some (.slice (some p) 1 cap)) (hs:Rows R w cs a) (hcl:cs.length=m*sz) (hr:Row w p us) (hul:us.length=1*sz) (hu:us.all mG=true) (hm:m<=1000000000) :
 BG P n l (.call ⟨.builtin .append,#[x,y],#[t,t]⟩) ty w (FQ λo w'=> ∃g cap',o = .slice (some ⟨g,0,none⟩) (m+1) cap'/\m+1<=cap'/\Row w' ⟨g,0,none⟩ (cs++us)/\w.heap.size<=g/\g<w'.heap.size/\Ext w w'):=by
 obtain ⟨i,v0,z1,z2,z3⟩:=EI Z hz;obtain ⟨i',hi',hs'⟩:=(T _ _ _ hE).info;rw [z1] at hi';obtain rfl:=gJ hi';have hbb:i.bytes<=1000:=by
  unfold Dk at hby;rw [z1] at hby;exact gV hby
 have hzs:v0.cells.size=sz:=by rw [z3];simpa using hzl
 have hsz':0<sz:=gV hsz;have hbytes:(m+1)*i.bytes<=140737488355328:=by have:=mp (show m+1<=1000000001 by omega) hbb;omega
 have hnews:∀j u,us[j]? = some u->w.cell? (p.add j)=some u:=λj u hj=>hr j u hj
 have hu':P.underlying t=some (.slice e):=(T _ _ _ ht).under;have c:m+1<=maxLen:=by unfold maxLen;omega
 have key:∃g cap' w',(Builtin.append_ #[t,t] ty #[.slice a m m,.slice (some p) 1 cap]).run P w = .ok (.slice (some ⟨g,0,none⟩) (m+1) cap') w'/\m+1<=cap'/\Row w' ⟨g,0,none⟩ (cs++us)/\w.heap.size<=g/\g<w'.heap.size/\Ext w w':=by
  have fin:∀(v':Value) (w':wD),w'.ownsRow w.heap.size e sz v' (m+1) (cs++us)->w.grownBy w' none -> ∃g cap',v' = .slice (some ⟨g,0,none⟩) (m+1) cap'/\m+1<=cap'/\Row w' ⟨g,0,none⟩ (cs++us)/\w.heap.size<=g/\g<w'.heap.size/\Ext w w':=λv' w' h1 h2=>by
   have ho:Own w' w.heap.size e sz v' (m+1) (cs++us):=h1;have hx:Ext w w':=⟨h2.os,h2.tape,h2.output,h2.size,λk hk=>h2.block k hk AQ⟩
   rcases ho.row with ⟨-,h0,-⟩|⟨g,cap',rfl,hg,hob,hrr⟩
   . omega
   . exact ⟨g,cap',rfl,SU ho,hrr,hg,(ho.blk hob).2,hx⟩
  cases a with
  | some b=>
   obtain ⟨v',w',hrun,h1,h2⟩:=run_append_arg_grows (P:=P) w t ty e i v0 sz i.bytes hu' z1 z2 hs' rfl hzs hsz' b m m cs hcl (λj u hj=>by
    rcases hs with rfl|⟨b',o,hb,-,hrow⟩
    . simp at hj
    . obtain rfl:=gJ hb;exact hrow j u hj) p 1 cap us hul hnews Ab c hbytes
   obtain ⟨g,cap',rfl,k⟩:=fin v' w' h1 h2;exact ⟨g,cap',w',hrun,k⟩
  | none=>
   have d:cs=[]:=by
    rcases hs with rfl|⟨b',o,hb,-⟩
    . rfl
    . cases hb
   subst d;have f:m=0:=by
    simp only [iM] at hcl;rcases me m with h|h
    . exact h
    . have:=Nat.mul_pos h hsz';omega
   subst f;have h1c:∀u∈us,u.oneCell'=true:=λu hm=>by rw [<-SH];exact iJ.1 hu u hm
   obtain ⟨v',w',hrun,h1,h2,-⟩:=run_append_own (P:=P) w w.heap.size t ty e i v0 sz i.bytes hu' z1 z2 hs' rfl hzs hsz' (.slice none 0 0) 0 [] nm p 1 cap us hul hnews h1c (by unfold maxLen;omega) (by simpa using hbytes) (gP _);obtain ⟨g,cap',rfl,k⟩:=fin v' w' (by simpa using h1) (by simpa [kw] using h2);exact ⟨g,cap',w',hrun,k⟩
 obtain ⟨g,cap',w',hrun,k⟩:=key;unfold BG;intro act dst pos after gd next Q ha hn _;have e1:(execOp act.eval ⟨dst,.call ⟨.builtin .append,#[x,y],#[t,t]⟩,ty,pos,after,gd⟩).run P w = .ok (.value (.slice (some ⟨g,0,none⟩) (m+1) cap')) w':=by
  simp only [execOp,resolve,invoke,builtin,gO,hH,jL,lW,iO,lg,ha.ev hx,ha.ev hy,hrun]
 unfold km;rw [e1];exact hn _ _ ⟨g,cap',rfl,k⟩
end
def JZ:(prog.fieldsOf 77).toList.map (λf=>(f.name == "_",f.type,f.offset))=[(false,9,0),(false,5,1),(false,3,2)]:=by kernel_rfl
def P7:prog.underlying 77=some (.struct (prog.fieldsOf 77)):=by kernel_rfl
def P8:prog.stoodInHeld 77=false:=by kernel_rfl
def P9:prog.eqGuardType prog.depth 77=false:=by kernel_rfl
def Iv {P:Program} {d:Nat} {xs:Array Value} {w:wD}:∀(G:List Field),(∀f∈G,∃v,(part f.type xs f.offset).run P w = .ok v w/\(Op.equalIn d f.type v v).run P w = .ok true w)->(Op.eqFields d xs xs G).run P w = .ok true w
 | [],_=>by simp [Op.eqFields]
 | f::G,h=>by
  obtain ⟨v,N,O⟩:=h f jH;have M:=Iv (P:=P) (d:=d) (xs:=xs) (w:=w) G (λg U=>h g (jB _ U));unfold Op.eqFields;split
  . simp only [gO,N,O,jL,Bool.not_true,iS,if_false,M]
  . exact M
def Ea {P:Program} {tab:Tab} {t sz h:Nat} {s:Sk} {cs:lV} (T:TabOk P tab) (G:AB tab t=some (s,sz)) (M:s.agg=false) (N:cs[h]? = some v) (w:wD):(part t cs.toArray h).run P w = .ok v w:=by
 simp [part,gO,Cq (T _ _ _ G),M,gF,N]
def Qa (v:VD) (w:wD):(Op.equalIn 10000 77 v.val v.val).run prog w = .ok true w:=by
 rw [show (10000:Nat)=9999+1 from rfl,run_equalIn_agg w 9999 _ _ _ P7 P8];refine Iv _ (λf N=>?_);have M:(f.name == "_",f.type,f.offset)∈(prog.fieldsOf 77).toList.map (λf=>(f.name == "_",f.type,f.offset)):=List.mem_map.2 ⟨f,N,rfl⟩;rw [JZ] at M;simp only [gT,iX,or_false,lp] at M
 rcases M with ⟨-,h,G⟩|⟨-,h,G⟩|⟨-,h,G⟩
 . rw [h,G]
   refine ⟨str v.name,Ea (cs:=v.cells) Ac rfl rfl rfl w,?_⟩
   rw [run_equalIn_string w 9998 _ _ _ (show prog.underlying 9=some .string from (Ac 9 .str 1 rfl).under)];simp
 . rw [h,G]
   refine ⟨.int .u8 v.kind,Ea (cs:=v.cells) Ac rfl rfl rfl w,?_⟩
   rw [run_equalIn_int w 9998 _ _ .u8 _ _ (show prog.underlying 5=some (.int .u8) from (Ac 5 (.int .u8) 1 rfl).under)];simp
 . rw [h,G]
   refine ⟨.int .i64 v.len,Ea (cs:=v.cells) Ac rfl rfl rfl w,?_⟩
   rw [run_equalIn_int w 9998 _ _ .i64 _ _ (show prog.underlying 3=some (.int .i64) from (Ac 3 (.int .i64) 1 rfl).under)];simp
def Uu {n:Nat} {l:Sl} {S:wD->Prop} {ty t':TypeId} {x y:Operand} {v:VD} (G:ev l x=some v.val) (M:ev l y=some v.val):Bm prog n l S (.binOp .neq 77 x y t') ty (.bool false):=by
 unfold Bm;intro a w N pos after g h _;have O:=run_eqGuard_agg (P:=prog) w .neq 77 x y v.cells.toArray v.cells.toArray P9;have U:(binOp .neq 77 v.val v.val).run prog w = .ok (.bool false) w:=by
  rw [run_neq_struct,Qa];rfl
 simp only [execOp,h.ev G,h.ev M,gO,O,U,jL,hH]
def PDs.ltA {l:List PD} (h:PDs S w l a):PDs (· < w.heap.size) w l a:=by
 rcases h with h|⟨b,o,N,h2,M⟩
 . exact gA h
 . cases l with
   | nil=>exact gA rfl
   | cons v r=>
    obtain ⟨_,_,_,_,G,-,-⟩:=M 0 v rfl;refine gB ⟨b,o,N,Ci (mE G rfl),λi x O=>?_⟩;obtain ⟨U,V,X,Y,G,Z,hs⟩:=M i x O;exact ⟨U,V,X,Y,G,Z.lt2.wide (λ_ h=>h.2),B6 _ _ hs⟩
structure PG.few (g:PG):Prop where
 nv:g.vars.length<=1000000
 np:g.procs.length<=1000000
 main:g.main.size<=1000000
 procs:∀p∈g.procs,p.params.length<=1000000/\p.body.size<=1000000
def OF (l:List VD) (U:l.length<=1000000) (s:lB) (S:nP) (a:oA) (c:Nat) (w:wD) (hs:VDs S w l a) :
 Calls prog 105 #[.slice a l.length c,str s] w λe w'=>e = .returned (.int .i64 (EU l s))/\Ext w w':=by
 have X:=Ne w;have G:=fZ (OE l U s);unfold EU;generalize D6 l s=o at *;cases o with
 | none=>
  dsimp only [Option.isSome,Option.getD] at G ⊢;refine Ad func105 ntmps105 rfl rfl (kC (G.out _ _ _ _ Af) ?_);rintro _ w2 ⟨⟨⟩,V⟩;have X:=X.ext V;refine eK ?_;refine xA [_,_,_] ?_;intro b4 w5 Y;refine eI [_,_,_] Y ?_;intro w7 _ Z _ _;have X:=X.ext Z;refine kR ?_;exact ⟨rfl,X⟩
 | some v=>
  obtain ⟨vn,vk,vl⟩:=v;dsimp only [Option.isSome,Option.getD] at G ⊢;refine Ad func105 ntmps105 rfl rfl (kC (G.out _ _ _ _ Af) ?_);rintro _ aa ⟨⟨⟩,M⟩;have X:=X.ext M;refine eK ?_;refine xA [_,_,_] ?_;intro ab ac h;refine De [_,_,_] Ac rfl rfl rfl rfl rfl rfl h rfl ?_;intro ad h;have N:=h.blk;dsimp only at N;have O:=h.ext;have X:=X.ext O;refine kR ?_;exact ⟨rfl,X⟩
def cY (l:List VD) (V:l.length<=1000000) (s:lB) (k:Int) (S:nP) (a:oA) (c:Nat) (w:wD) (hs:VDs S w l a) :
 Calls prog 172 #[.slice a l.length c,str s,.int .u8 k] w λe w'=>e = .returned (.int .i64 (FA l s k))/\Ext w w':=by
 have X:=Ne w;have M:=fZ (OE l V s);unfold FA;generalize D6 l s=o at *;cases o with
 | none=>
  dsimp only [Option.isSome,Option.getD] at M;refine Ad func172 ntmps172 rfl rfl (kC (M.out _ _ _ _ Af) ?_);rintro _ w2 ⟨⟨⟩,Y⟩;have X:=X.ext Y;refine eK ?_;refine xA [_,_,_] ?_;intro b4 w5 Z;refine eI [_,_,_] Z ?_;intro w7 _ x9 _ _;have X:=X.ext x9;refine kR ?_;exact ⟨rfl,X⟩
 | some v=>
  obtain ⟨vn,vk,vl⟩:=v;dsimp only [Option.isSome,Option.getD] at M ⊢;refine Ad func172 ntmps172 rfl rfl ?_
  focus
   refine kC (M.out _ _ _ _ Af) ?_;rintro _ aa ⟨⟨⟩,N⟩;have X:=X.ext N;refine eK ?_;refine xA [_,_,_] ?_;intro ab ac h;refine De [_,_,_] Ac rfl rfl rfl rfl rfl rfl h rfl ?_;intro ad h;have O:=h.blk;dsimp only at O;have U:=h.ext;have X:=X.ext U;refine eK ?_;refine BP rfl (λG=>?_) (λG=>?_);refine kR ?_;rotate_left;refine kR ?_;rotate_left
  all_goals exact ⟨by simp [*],X⟩
def Gi (ps:List PD) (s:lB):Int:=match CD ps s with
 | some i=>(i:Int)
 | none=> -1
def PDs.get {l:List PD} (h:PDs S w l a) (G:l≠[]):∃b o,a=some ⟨b,o,none⟩/\S b /\ ∀i p,l[i]? = some p->cQ S w b (o+i*6) p:=by
 rcases h with h|⟨b,o,M,N,O⟩
 . exact absurd h G
 . exact ⟨b,o,M,N,λi v U=>O i v U⟩
def YC (p:PD) (M N:oA) (O U h:Nat) (s:lB) (w:wD) (G:Blk w h [str s]):Calls prog 143 #[.agg (p.cells M O N U).toArray,.pointer (some ⟨h,0,none⟩)] w λe w'=>e = .returned (.bool (decide (p.name=s)))/\Ext w w':=by
 have X:=Ne w;refine Ad func143 ntmps143 rfl rfl (cS (eB [_,_,_,_,_,_] ?_));intro Y Z h4 V _ _;revert G X;refine eE V ?_;intro G X;refine kR ?_;exact ⟨rfl,X⟩
def FV {f:α->Bool} {l:List α} (h:j<l.length) (M:(l.take j).findIdx? f=none):(l.take (j+1)).findIdx? f=if f l[j]=true then some j else none:=by
 rw [gC h,lH,M];by_cases G:f l[j]=true
 . simp [G,lR];omega
 . simp [G,lR]
def FW {f:α->Bool} {l:List α} {i:Nat} (h:(l.take j).findIdx? f=some i):l.findIdx? f=some i:=by
 rw [<-iT j l,lH,h];rfl
def Wf (l:List PD) (hl:l.length<=1000000) (s:lB) (S:nP) (a:oA) (c O:Nat) (w:wD) (G:PDs S w l a) (U:Blk w O [str s]) :
 Calls prog 142 #[.slice a l.length c,.func (.func 143) #[] #[.pointer (some ⟨O,0,none⟩)]] w λe w'=>e = .returned (.int .i64 (Gi l s))/\Ext w w':=by
 have X:=Ne w;have G:=G.ltA;refine Ad func142 ntmps142 rfl rfl (cS (C1 Pa (cT (Aj (cS (C1 Mv (C1 Pz (C1 Mv (cT ?_)))))))));refine As ?_;refine AF (ι:=Nat) (λj=>[(0,.slice a l.length c),(1,.func (.func 143) #[] #[.pointer (some ⟨O,0,none⟩)]),(6,.slice a l.length c),(7,.int .i64 l.length),(8,.int .i64 j)])
  (λj w'=>j<=l.length/\PDs (· < w.heap.size) w' l a/\Blk w' O [str s]/\Ext w w'/\(l.take j).findIdx? (λp=>decide (p.name=s))=none)
  (λj=>l.length-j) 0 sB ⟨gI _,G,U,X,rfl⟩ ?_
 rintro j w1 ⟨hj,G,U,X,M⟩;by_cases N:j<l.length
 . obtain ⟨kb,ko,rfl,kS,V⟩:=G.get (by intro e;subst e;simp at N);obtain ⟨pa,pc,ba,bc,ry,-,-⟩:=V j l[j] (fY N);have Y:=FV N M;have Z:l[j].name=s->Gi l s=j:=λh=>by
    rw [AT (by simpa using h)] at Y;rw [Gi,CD,FW Y]
   generalize l[j]=y at *
   focus
    refine eK ?_;refine Az (Bb (fi:=[]) (ca:=[.pointer (some ⟨O,0,none⟩)]) AR rfl rfl (YC y pa ba pc bc _ s _ Af) (λ_ _ h=>⟨_,h.1⟩)) rfl ?_ aFh;rintro _ ac ⟨⟨⟩,aa⟩;revert U X G;refine eE aa ?_;intro U X G;refine cT (AA rfl (λab=>?_) (λab=>?_));refine kR ?_;rotate_left;refine Am (Ah (Ai (Ak (C1 V7 (C1 Mv (Al ?_))))));rotate_left
   . exact ⟨by rw [Z Af],X⟩
   . exact Av (j+1) sB ⟨Ab,G,U,X,Y.trans (AC (by simpa using Af))⟩ Ab
 . obtain rfl:j=l.length:=by omega
   rw [gL] at M;have he:Gi l s = -1:=by rw [Gi,CD,M]
   rw [he];refine kR ?_;exact ⟨rfl,X⟩
def OG (g:PG) (U:g.procs.length<=1000000) (s:lB) (S:nP) (V:oA) (vc:Nat) (N:oA) (Y:Nat) (Z:oA) (mc:Nat) (w:wD) (h:PDs S w g.procs N) :
 Calls prog 106 #[.agg (g.cells V vc N Y Z mc).toArray,str s] w λe w'=>e = .returned (.int .i64 (Gi g.procs s))/\Ext w w':=by
 have X:=Ne w;have h:=h.ltA;refine Ad func106 ntmps106 rfl rfl (cS (eB [_,_,_,_,_,_] ?_));intro b1 w2 O x5 _ _;revert X h;refine eE x5 ?_;intro X h;refine eB [_] ?_;intro b8 w9 aa G _ _;revert O X h;refine eE G ?_;intro O X h;refine eK ?_;refine C1 (BW rfl) (cC rfl (Wf _ U s _ _ _ _ _ Af Af) ?_);rintro _ ab ⟨⟨⟩,M⟩;have X:=X.ext M;refine kR ?_;exact ⟨rfl,X⟩
def YD (a:oA) (n c:Nat) (w:wD) (h:n<=c) (G:n<=1000000):Calls prog 173 #[.slice a n c] w λe w'=>e = .returned (.slice a n n)/\w=w':=by
 refine Ad func173 ntmps173 rfl rfl (eK ?_);refine C1 (P6 Ac rfl rfl rfl rfl rfl h) (kR ?_);exact ⟨rfl,rfl⟩
def Lc (a:oA) (n c:Nat) (w:wD) (h:n<=c) (G:n<=1000000):Calls prog 174 #[.slice a n c] w λe w'=>e = .returned (.slice a n n)/\w=w':=by
 refine Ad func174 ntmps174 rfl rfl (eK ?_);refine C1 (P6 Ac rfl rfl rfl rfl rfl h) (kR ?_);exact ⟨rfl,rfl⟩
def PathAt (S:nP) (w:wD) (a:oA) (n c:Nat):Prop:=(n<=c/\(a=none->c=0)) /\ ∃cs:lV,cs.length=n*1/\cs.all mG=true/\Rows S w cs a
def PathAt.nil:PathAt S w none 0 0:=⟨⟨gP _,λ_=>rfl⟩,[],rfl,rfl,gA rfl⟩
def PathAt.ext {S:nP} {w w':wD} {a:oA} {n c:Nat} (h:PathAt S w a n c) (x:Ext w w'):PathAt S w' a n c:=⟨h.1,by obtain ⟨cs,G,M,N⟩:=h.2;exact ⟨cs,G,M,N.ext x⟩⟩
instance {n:Nat}:LfE w w' (PathAt S w a n c) (PathAt S w' a n c):=⟨λx h=>Bk.PathAt.ext h x⟩
def PathAt.fr {S T:nP} {w w':wD} {a:oA} {n c:Nat} (h:PathAt S w a n c) (x:Fr T w w') (G:∀b,S b -> ¬T b):PathAt S w' a n c:=⟨h.1,by obtain ⟨cs,M,N,O⟩:=h.2;exact ⟨cs,M,N,O.fr x G⟩⟩
instance {T:nP} {n:Nat}:LfF T w w' (PathAt S w a n c) (∀b,S b -> ¬T b) (PathAt S w' a n c):=⟨λx s h=>Bk.PathAt.fr h x s⟩
def PathAt.clone {n:Nat} (h:PathAt S w a n c) (V:n<=1000000):Calls prog 88 #[.slice a n c] w (SliceR n w):=by
 obtain ⟨⟨X,G⟩,cs,M,N,O⟩:=h;cases a with
 | some p=>exact KE cs n M N Ab S p c w O
 | none=>
  have U:=G rfl;subst U;obtain rfl:n=0:=by omega
  exact KF w
def ChildR (n:Nat) (w:wD):Ending->wD->Prop:=λe w'=> ∃g c,e = .returned (.slice (some ⟨g,0,none⟩) (n+1) c)/\PathAt (λb=>w.heap.size<=b/\b<w'.heap.size) w' (some ⟨g,0,none⟩) (n+1) c/\Ext w w'
def ChildR.ret {n:Nat} (h:ChildR n w e w'):∃v,e = .returned v:=by
 obtain ⟨_,_,h,-⟩:=h;exact ⟨_,h⟩
def Tb (i:Int) (S:nP) (a:oA) (n c:Nat) (w:wD) (V:n<=1000000) (Y:PathAt S w a n c):Calls prog 145 #[.slice a n c,.int .i64 i] w (ChildR n w):=by
 have X:=Ne w;obtain ⟨⟨Z,-⟩,cs,U,h2,h⟩:=Y;have h:=h.ltA;refine Ad func145 ntmps145 rfl rfl (kC (YD _ _ _ _ Z V) ?_);rintro _ w1 ⟨⟨⟩,rfl⟩;refine C1 Mv (Az (xS [_]) rfl ?_ aFh);rintro _ w3 ⟨b2,rfl,G,t5⟩;have h6:=G.blk;have x7:=G.ext;have p8:=G.pos;have z9:=G.size;revert X h;refine eE x7 ?_;intro X h;refine Az (CX Ac Ca rfl rfl rfl rfl AR rfl rfl rfl Af U (mJ Af) rfl rfl Ab) rfl ?_ aFh;rintro _ aa ⟨ab,M,rfl,N,ac,ad,ae,O⟩;have X:=X.ext O;refine kR ?_;exact ⟨_,_,rfl,⟨⟨N,λe=>by cases e⟩,cs++[.int .i64 i],by simp [U],by rw [lJ,h2];rfl,gB ⟨_,_,rfl,⟨Ab,Ab⟩,Af⟩⟩,X⟩
def InnerR (S:nP) (L:List VD) (w:wD):Ending->wD->Prop:=λe w'=> ∃a c,e = .returned (.slice a L.length c)/\L.length<=c/\VDs (λb=>S b\/(w.heap.size<=b/\b<w'.heap.size)) w' L a/\Ext w w'
def InnerR.ret {L:List VD} (h:InnerR S L w e w'):∃v,e = .returned v:=by
 obtain ⟨_,_,h,-⟩:=h;exact ⟨_,h⟩
def LO {l:List VD} {v:VD} {g:Nat} (h:l.length+1<=c) (G:Row w' ⟨g,0,none⟩ (l.flatMap VD.cells++v.cells)) (M:w.heap.size<=g) (N:g<w'.heap.size) (X:Ext w w'):InnerR S (l++[v]) w (.returned (.slice (some ⟨g,0,none⟩) (l.length+1) c)) w':=by
 refine ⟨some ⟨g,0,none⟩,c,AQ,by simpa using h,LK (gB ⟨g,0,rfl,gB ⟨M,N⟩,?_⟩),X⟩;rw [kh];simpa using G
def YE (k n:Int) (s:lB) (kl:List Nd) (ka:oA) (kc i:Nat) (l:List VD) (hl:l.length<=1000000) (S:nP) (a:oA) (c:Nat) (w:wD) (hc:l.length<=c) (hs:VDs S w l a) :
 Calls prog 147 #[(Nd.mk k n s kl).val ka kc,.int .i64 i,.slice a l.length c] w (InnerR S (CS k s i l) w):=by
 have X:=Ne w;have h1:=G5 Ov l;have hs:=PT hs;have N:=hs.ltA;show Calls prog 147 #[.agg #[.int .u8 k,.int .i64 n,str s,.slice ka kl.length kc],.int .i64 i,.slice a l.length c] w (InnerR S (CS k s i l) w);by_cases V:k=54/\i=1
 . have hv:CS k s i l=l++[⟨s,1,0⟩]:=by unfold CS;rw [AT V]
   rw [hv];obtain ⟨rfl,rfl⟩:=V;refine Ad func147 ntmps147 rfl rfl ?_
   focus
    refine cS (eB [_,_,_,_] ?_);intro b1 w2 h4 x5 p6 z7;revert X N;refine eE x5 ?_;intro X N;refine eK ?_;refine Ap (λwz=>Ext w2 wz) 6 (.pure 0 (.pure 2 (.pure 3 (.pure 4 (.fork 1 (.fork 5 .tail .none) (.fork 5 (.fork 1 .tail .none) .none)))))) mixed AR (Aa (Ae (Aa Ag))) ?_;intro w8 x9 _;have M:(λwz=>Ext w2 wz) w8:=x9;simp only at M;have ay:=h4;revert X N;refine eY x9 ?_;intro bq X N;refine ⟨M,?_⟩;refine eT ?_;refine Tq rfl (xB [_,_,_]) ?_;refine Ax rfl (AM AR rfl (Lc _ _ _ _ hc hl) (λ_ _ h=>⟨_,h.1⟩)) rfl ?_ aFh ?kr12;rintro _ br ⟨⟨⟩,rfl⟩;refine ⟨M,?_⟩;refine Ax rfl (xS [_,_,_]) rfl ?_ aFh Au;rintro _ bs ⟨bt,rfl,Y,bu⟩;have bv:=Y.blk;have al:=Y.ext;have bw:=Y.pos;have z22:=Y.size;revert M X N;refine eE al ?_;intro M X N;refine ⟨M,?_⟩;refine Aq rfl ?_;refine Az (CX Ac Ca rfl rfl rfl rfl AR rfl rfl rfl Af h1 (mJ Af) rfl rfl Ab) rfl ?_ aFh;rintro _ bx ⟨bz,aj,rfl,b0,b2,b3,b4,am⟩;have X:=X.ext am;refine kR ?_;rotate_left;refine Ax rfl (xS [_,_,_]) rfl ?_ aFh Au;rintro _ b5 ⟨b6,rfl,Z,b7⟩;have b8:=Z.blk;have an:=Z.ext;have b9:=Z.pos;have ca:=Z.size;revert M X N;refine eE an ?_;intro M X N;refine ⟨M,?_⟩;refine tC rfl rfl (Lc _ _ _ _ hc hl) ?_;rintro _ cb ⟨⟨⟩,rfl⟩;refine ⟨M,?_⟩;refine Aq rfl ?_;refine Az (CX Ac Ca rfl rfl rfl rfl AR rfl rfl rfl Af h1 (mJ Af) rfl rfl Ab) rfl ?_ aFh;rintro _ cc ⟨cd,ak,rfl,ce,cf,cg,ch,ao⟩;have X:=X.ext ao;refine kR ?_;rotate_left
   all_goals exact LO (v:=⟨s,1,0⟩) Af Af Ab Af X
 by_cases aa:k=55/\i=0
 . have hv:CS k s i l=l++[⟨s,3,0⟩]:=by unfold CS;rw [AC V,AT aa]
   rw [hv];obtain ⟨rfl,rfl⟩:=aa;refine Ad func147 ntmps147 rfl rfl ?_
   focus
    refine cS (eB [_,_,_,_] ?_);intro ci ab ap aq cj ck;revert X N;refine eE aq ?_;intro X N;refine eK ?_;refine Ap (λwz=>Ext ab wz) 6 (.pure 0 (.pure 2 (.pure 3 (.pure 4 (.fork 1 (.fork 5 .tail .none) (.fork 5 (.fork 1 .tail .none) .none)))))) mixed AR (Aa (Ae (Aa Ag))) ?_;intro ar ac _;have G:(λwz=>Ext ab wz) ar:=ac;simp only at G;have au:=ap;revert X N;refine eY ac ?_;intro az X N;refine ⟨G,?_⟩;refine eT ?_;refine Tq rfl (xB [_,_,_]) ?_;refine Ax rfl (AM AR rfl (Lc _ _ _ _ hc hl) (λ_ _ h=>⟨_,h.1⟩)) rfl ?_ aFh ?kra12;rintro _ a0 ⟨⟨⟩,rfl⟩;refine ⟨G,?_⟩;refine Ax rfl (xS [_,_,_]) rfl ?_ aFh Au;rintro _ a1 ⟨a2,rfl,O,a3⟩;have a4:=O.blk;have ad:=O.ext;have a5:=O.pos;have a6:=O.size;revert G X N;refine eE ad ?_;intro G X N;refine ⟨G,?_⟩;refine Aq rfl ?_;refine Az (CX Ac Ca rfl rfl rfl rfl AR rfl rfl rfl Af h1 (mJ Af) rfl rfl Ab) rfl ?_ aFh;rintro _ a7 ⟨a8,ae,rfl,a9,ba,bb,bc,af⟩;have X:=X.ext af;refine kR ?_;rotate_left;refine Ax rfl (xS [_,_,_]) rfl ?_ aFh Au;rintro _ bd ⟨be,rfl,U,bf⟩;have bg:=U.blk;have ag:=U.ext;have bh:=U.pos;have bi:=U.size;revert G X N;refine eE ag ?_;intro G X N;refine ⟨G,?_⟩;refine tC rfl rfl (Lc _ _ _ _ hc hl) ?_;rintro _ bj ⟨⟨⟩,rfl⟩;refine ⟨G,?_⟩;refine Aq rfl ?_;refine Az (CX Ac Ca rfl rfl rfl rfl AR rfl rfl rfl Af h1 (mJ Af) rfl rfl Ab) rfl ?_ aFh;rintro _ bk ⟨bl,ah,rfl,bm,bn,bo,bp,ai⟩;have X:=X.ext ai;refine kR ?_;rotate_left
   all_goals exact LO (v:=⟨s,3,0⟩) Af Af Ab Af X
 . have hv:CS k s i l=l:=by unfold CS;rw [AC V,AC aa]
   rw [hv];refine Ad func147 ntmps147 rfl rfl ?_
   focus
    refine cS (eB [_,_,_,_] ?_);intro cl cm cn av _ _;revert X hs;refine eE av ?_;intro X hs;refine eK ?_;refine B4 rfl rfl rfl (λaw=>?_) (λaw=>?_);refine kR ?_;rotate_left;refine eK ?_;refine B4 rfl rfl rfl (λax=>?_) (λax=>?_);refine kR ?_;rotate_left;refine kR ?_;rotate_left
   all_goals exact ⟨_,_,rfl,hc,(LK Af).wide (λ_ h=>gA h),X⟩
def Qb {ps:List PD} {i:Nat} (h:CD ps s=some i):i<ps.length:=by
 unfold CD at h;obtain ⟨G,-⟩:=List.findIdx?_eq_some_iff_getElem.1 h;exact G
set_option maxHeartbeats 8000000 in
def YF (g:PG) (hg:g.procs.length<=1000000) (k n:Int) (s:lB) (l:List Nd) (ka:oA) (kc:Nat) (v:List VD) (hv:v.length<=1000000) (S S':nP) (va:oA) (vc:Nat) (pa:oA) (pc:Nat) (ma:oA) (mc:Nat) (a:oA) (c:Nat) (w:wD) (G:PDs S w g.procs pa) (hs:VDs S' w v a) :
 Calls prog 144 #[.agg (g.cells va vc pa pc ma mc).toArray,(Nd.mk k n s l).val ka kc,.slice a v.length c] w λe w'=>e = .returned (.int .i64 (CH g.procs v k s l.length))/\Ext w w':=by
 have X:=Ne w;have G:=G.ltA;have HU:=fZ (cY v hv s);have HF:=fZ (OF v hv s);have HP:=fZ (OG g hg s);show Calls prog 144 #[.agg (g.cells va vc pa pc ma mc).toArray,.agg #[.int .u8 k,.int .i64 n,str s,.slice ka l.length kc],.slice a v.length c] w _;refine Ad func144 ntmps144 rfl rfl ?_
 focus
  refine cS (eB [_,_,_,_,_,_] ?_);intro b1 w2 Y x5 _ _;revert hs X G;refine eE x5 ?_;intro hs X G;refine eB [_,_,_,_] ?_;intro b8 w9 V ac _ az;revert Y hs X G;refine eE ac ?_;intro Y hs X G;refine eK ?_;refine AA rfl (λad=>?_) (λad=>?_);rotate_left;rotate_left
 . have N:CH g.procs v k s l.length=FA v s 1:=by unfold CH;rw [AT Ab]
   rw [N];refine kC (HU.out _ _ _ _ _ Af) ?_;rintro _ a0 ⟨⟨⟩,ae⟩;have X:=X.ext ae;refine kR ?_;exact ⟨rfl,X⟩
 focus
  refine eK ?_;refine AA rfl (λaf=>?_) (λaf=>?_);rotate_left;refine Aj ?_;rotate_left
 . have N:CH g.procs v k s l.length=FA v s 2:=by unfold CH;rw [AC Ab,AT Ab]
   rw [N];refine kC (HU.out _ _ _ _ _ Af) ?_;rintro _ a1 ⟨⟨⟩,ag⟩;have X:=X.ext ag;refine kR ?_;exact ⟨rfl,X⟩
 refine Dv (ι:=Unit) (λ_=>[(2,.slice a v.length c),(3,.pointer (some ⟨b1,0,none⟩)),(4,.pointer (some ⟨b8,0,none⟩)),(9,.int .u8 k),(22,.bool (decide (k=4\/k=5\/k=44\/k=45)))]) (λ_ w'=>w'=w9) ?_ ?_
 . focus
    refine eK ?_;refine AA rfl (λah=>?_) (λah=>?_);refine Am ?_;rotate_left;refine eK ?_;refine AA rfl (λai=>?_) (λai=>?_);refine Am ?_;rotate_left;refine eK ?_;refine AA rfl (λaj=>?_) (λaj=>?_);refine Am ?_;rotate_left;refine eK ?_;rotate_left
   all_goals exact BC () (An rfl (An rfl (An rfl (An rfl (BO rfl (congrArg Value.bool (decide_eq_decide.2 Ab)) BE))))) rfl
 rintro-u1 h;subst h
 focus
  refine AA rfl (λak=>?_) (λak=>?_);rotate_left;refine Aj ?_;rotate_left
 . have N:CH g.procs v k s l.length=FA v s 3:=by unfold CH;rw [AC Ab,AC Ab,AT Ab]
   rw [N];refine kC (HU.out _ _ _ _ _ Af) ?_;rintro _ a2 ⟨⟨⟩,al⟩;have X:=X.ext al;refine kR ?_;exact ⟨rfl,X⟩
 refine Dv (ι:=Unit) (λ_=>[(2,.slice a v.length c),(3,.pointer (some ⟨b1,0,none⟩)),(4,.pointer (some ⟨b8,0,none⟩)),(9,.int .u8 k),(31,.bool (decide (k=54\/k=55)))]) (λ_ w'=>w'=u1) ?_ ?_
 . focus
    refine eK ?_;refine AA rfl (λam=>?_) (λam=>?_);refine Am ?_;rotate_left;refine eK ?_;rotate_left
   all_goals exact BC () (An rfl (An rfl (An rfl (An rfl (BO rfl (congrArg Value.bool (decide_eq_decide.2 Ab)) BE))))) rfl
 rintro-u2 h;subst h
 focus
  refine AA rfl (λan=>?_) (λan=>?_);rotate_left;refine Aj ?_;rotate_left
 . have N:CH g.procs v k s l.length=EU v s:=by unfold CH;rw [AC Ab,AC Ab,AC Ab,AT Ab]
   rw [N];refine kC (HF.out _ _ _ _ Af) ?_;rintro _ a3 ⟨⟨⟩,ao⟩;have X:=X.ext ao;refine kR ?_;exact ⟨rfl,X⟩
 refine Dv (ι:=Unit) (λ_=>[(2,.slice a v.length c),(3,.pointer (some ⟨b1,0,none⟩)),(4,.pointer (some ⟨b8,0,none⟩)),(9,.int .u8 k),(38,.bool (decide (k=50\/k=51)))]) (λ_ w'=>w'=u2) ?_ ?_
 . focus
    refine eK ?_;refine AA rfl (λap=>?_) (λap=>?_);refine Am ?_;rotate_left;refine eK ?_;rotate_left
   all_goals exact BC () (An rfl (An rfl (An rfl (An rfl (BO rfl (congrArg Value.bool (decide_eq_decide.2 Ab)) BE))))) rfl
 rintro-u3 h;subst h
 focus
  refine AA rfl (λaq=>?_) (λaq=>?_);rotate_left;refine kR ?_;rotate_left
 . have N:CH g.procs v k s l.length=SM g.procs s l.length:=by unfold CH;rw [AC Ab,AC Ab,AC Ab,AC Ab,AT Ab]
   rw [N];unfold SM;have M:=fZ (HP.out (· < w.heap.size) va vc pa pc ma mc);unfold Gi at M;cases hq:CD g.procs s with
   | none=>
    rw [hq] at M;dsimp only at M;refine kC (M.out _ Af) ?_;rintro _ a4 ⟨⟨⟩,ar⟩;have X:=X.ext ar;refine kR ?_;exact ⟨rfl,X⟩
   | some i=>
    rw [hq] at M;dsimp only at M;have hi:=Qb hq;obtain ⟨kb,ko,rfl,kS,O⟩:=G.get (by intro e;rw [e] at hi;simp at hi);obtain ⟨qa,qc,ba,bc,r0,-,-⟩:=O i g.procs[i] (fY hi);have hm:((g.procs[i]?.map λp=>p.params.length).getD 0)=g.procs[i].params.length:=by rw [fY hi];rfl
    dsimp only;rw [hm];clear O hm hq;generalize g.procs[i]=y at *
    focus
     refine kC (M.out _ Af) ?_;rintro _ Z ⟨⟨⟩,au⟩;revert V X Y r0;refine eE au ?_;intro V X Y r0;refine eK ?_;refine Ap (λwz=>Ext Z wz) 10 (.pure 0 (.pure 1 (.pure 2 (.pure 3 (.pure 4 (.pure 5 (.pure 6 (.pure 7 (.pure 8 (.pure 9 .tail)))))))))) mixed AR (Aa (Ae (Aa Ag))) ?_;intro av aa _;have U:(λwz=>Ext Z wz) av:=aa;simp only at U;have aw:=V;have ay:=Y;have ab:=r0;have X:=X.ext aa;refine ⟨U,?_⟩;refine eT ?_;refine Tq rfl (Dr ab) (Tq rfl Pz ?_);refine Aq rfl ?_;refine eK ?_;refine BP rfl (λax=>?_) (λax=>?_);refine kR ?_;rotate_left;refine kR ?_;rotate_left
    . rw [AC Ab];exact ⟨rfl,X⟩
    . rw [AT Ab];exact ⟨rfl,X⟩
 . have N:CH g.procs v k s l.length=0:=by unfold CH;rw [AC Ab,AC Ab,AC Ab,AC Ab,AC Ab]
   rw [N];exact ⟨rfl,X⟩
set_option maxHeartbeats 8000000 in
def Qc (g:PG) (hg:g.procs.length<=1000000) (k n:Int) (s:lB) (l:List Nd) (hl:l.length<=1000000) (i:Nat) (hi:i<l.length) (v:List VD) (hv:v.length<=1000000) (S S' bm:nP) (va:oA) (vc:Nat) (pa:oA) (pc:Nat) (ma:oA) (mc:Nat) (ka:oA) (kc:Nat) (a:oA) (c:Nat) (w:wD) (h:PDs S w g.procs pa) (ak:rowSits bm w l ka) (hs:VDs S' w v a) :
 Calls prog 146 #[.agg (g.cells va vc pa pc ma mc).toArray,(Nd.mk k n s l).val ka kc,.int .i64 i,.slice a v.length c] w λe w'=>e = .returned (.int .i64 (Pj g.procs v s l.length i (l[i]'hi).name))/\Ext w w':=by
 have X:=Ne w;have h:=h.ltA;have ak:=B7 _ _ ak;obtain ⟨xb,xo,rfl,xS,an⟩:=BJ ak (by intro e;subst e;simp at hi);obtain ⟨xa,xc,V,-⟩:=an i l[i] (fY hi);clear an ak;have HF:=fZ (OE v hv (l[i]).name);have HP:=fZ (OG g hg s (· < w.heap.size) va vc pa pc ma mc);unfold Gi at HP;unfold Pj;generalize l[i]=x at *;show Calls prog 146 #[.agg (g.cells va vc pa pc ma mc).toArray,.agg #[.int .u8 k,.int .i64 n,str s,.slice (some ⟨xb,xo,none⟩) l.length kc],.int .i64 i,.slice a v.length c] w _;generalize D6 v x.name=o at *;cases o with
 | none=>
  dsimp only [Option.isSome,Option.getD] at HF;refine Ad func146 ntmps146 rfl rfl ?_;refine cS (eB [_,_,_,_,_,_] ?_);intro b1 w2 _ x5 _ _;revert hs X V;refine eE x5 ?_;intro hs X V;refine eB [_,_,_,_] ?_;intro b8 w9 cd bn _ _;revert hs X V;refine eE bn ?_;intro hs X V;refine eK ?_;refine C1 (Pw V) (cC rfl (HF.out _ _ _ _ Af) ?_);rintro _ ce ⟨⟨⟩,bo⟩;have X:=X.ext bo;refine eK ?_;refine xA [_,_,_] ?_;intro cf cg bp;refine eI [_,_,_] bp ?_;intro ch _ bq _ _;have X:=X.ext bq;refine kR ?_;exact ⟨rfl,X⟩
 | some d=>
  obtain ⟨dn,dk,dl⟩:=d;dsimp only [Option.isSome,Option.getD] at HF ⊢;cases hq:CD g.procs s with
  | none=>
   rw [hq] at HP;dsimp only [Option.bind] at HP ⊢;refine Ad func146 ntmps146 rfl rfl ?_;refine cS (eB [_,_,_,_,_,_] ?_);intro ci cj af br _ _;revert hs X h V;refine eE br ?_;intro hs X h V;refine eB [_,_,_,_] ?_;intro ck cl ab a0 _ _;revert af hs X h V;refine eE a0 ?_;intro af hs X h V;refine eK ?_;refine C1 (Pw V) (cC rfl (HF.out _ _ _ _ Af) ?_);rintro _ bu ⟨⟨⟩,a1⟩;revert ab af X h;refine eE a1 ?_;intro ab af X h;refine eK ?_;refine xA [_,_,_] ?_;intro bv bw ac;refine De [_,_,_] Ac rfl rfl rfl rfl rfl rfl ac rfl ?_;intro bx ac;have Z:=ac.blk;dsimp only at Z;have a2:=ac.ext;revert ab af X h;refine eE a2 ?_;intro ab af X h;refine kC (HP.out _ Af) ?_;rintro _ ao ⟨⟨⟩,a3⟩;revert Z X;refine eE a3 ?_;intro Z X;refine eK ?_;refine Ap (λwz=>Ext ao wz) 13 (.pure 0 (.pure 1 (.pure 2 (.pure 3 (.pure 4 (.pure 5 (.pure 6 (.pure 7 (.pure 8 (.pure 9 (.pure 10 (.pure 11 (.pure 12 .tail))))))))))))) mixed AR (Aa (Aa Ag)) ?_;intro a4 ap _;have ag:(λwz=>Ext ao wz) a4:=ap;simp only at ag;revert Z X;refine eE ap ?_;intro Z X;refine ⟨ag,?_⟩;refine Tq rfl Mv (Tq rfl V3 (Tq rfl Mv (eM rfl (eM rfl (eM rfl (eM rfl (eM rfl (eM rfl (eM rfl (eM rfl (eM rfl ?_)))))))))));refine eM rfl ?_;refine Aq rfl ?_;refine kR ?_;exact ⟨rfl,X⟩
  | some j=>
   rw [hq] at HP;have hj:=Qb hq;dsimp only [Option.bind] at HP ⊢;rw [fY hj];dsimp only;obtain ⟨kb,ko,rfl,kS,aq⟩:=h.get (by intro e;rw [e] at hj;simp at hj);obtain ⟨qa,qc,ba,bc,G,ax,-⟩:=aq j g.procs[j] (fY hj);clear aq hq;generalize g.procs[j]=y at *;by_cases hm:l.length=y.params.length
   . rw [AC Ab];obtain ⟨zb,zo,rfl,zS,a5⟩:=ax.get (by intro e;rw [e] at hm;simp only [iM] at hm;omega);have r1:=a5 i (y.params[i]'(by omega)) (fY Ab);rw [fY Ab];dsimp only;clear a5 ax;generalize y.params[i]'(by omega)=q at *;obtain ⟨qn,qk,ql⟩:=q;replace r1:Row w ⟨zb,zo+i*3,none⟩ [str qn,.int .u8 qk,.int .i64 ql]:=r1;dsimp only;refine Ad func146 ntmps146 rfl rfl ?_
     focus
      refine cS (eB [_,_,_,_,_,_] ?_);intro cm cn M bs _ _;revert hs X V h G r1;refine eE bs ?_;intro hs X V h G r1;refine eB [_,_,_,_] ?_;intro co cp N a6 _ _;revert M hs X V h G r1;refine eE a6 ?_;intro M hs X V h G r1;refine eK ?_;refine C1 (Pw V) (cC rfl (HF.out _ _ _ _ Af) ?_);rintro _ bz ⟨⟨⟩,a7⟩;revert N M X h G r1;refine eE a7 ?_;intro N M X h G r1;refine eK ?_;refine xA [_,_,_] ?_;intro b0 b2 ad;refine De [_,_,_] Ac rfl rfl rfl rfl rfl rfl ad rfl ?_;intro b3 ad;have O:=ad.blk;dsimp only at O;have a8:=ad.ext;revert N M X h G r1;refine eE a8 ?_;intro N M X h G r1;refine kC (HP.out _ Af) ?_;rintro _ ar ⟨⟨⟩,a9⟩;revert O N M X G r1;refine eE a9 ?_;intro O N M X G r1;refine eK ?_;refine Ap (λwz=>Ext ar wz) 13 (.pure 0 (.pure 1 (.pure 2 (.pure 3 (.pure 4 (.pure 5 (.pure 6 (.pure 7 (.pure 8 (.pure 9 (.pure 10 (.pure 11 (.pure 12 .tail))))))))))))) mixed AR (Aa (Aa Ag)) ?_;intro bb au _;have ah:(λwz=>Ext ar wz) bb:=au;simp only at ah;have al:=N;have ay:=M;have ai:=G;revert O M X G r1;refine eE au ?_;intro O M X G r1;refine ⟨ah,?_⟩;refine Tq rfl Mv (Tq rfl V3 (Tq rfl Mv (eN rfl (A1 Ac rfl rfl rfl) (eN rfl (Ar Ac rfl rfl rfl (λwz hz=>mC (my al hz) rfl)) (eN rfl (DM Ac rfl rfl) (eN rfl (A1 Ac rfl rfl rfl) (eN rfl (Ar Ac rfl rfl rfl (λwz hz=>mC (my ay hz) rfl)) (eN rfl (Aw rfl) (eN rfl (AK Ac rfl rfl rfl rfl Ab Ab) (eN rfl (A1 Ac rfl rfl rfl) (eN rfl (Ar Ac rfl rfl rfl (λwz hz=>Row.at (mw ai hz) rfl)) ?_)))))))))));refine eN rfl (DM Ac rfl rfl) ?_;refine Aq rfl ?_;refine eK ?_;refine C1 (Pw G) ?_;refine eK ?_;refine xA [_,_,_] ?_;intro b4 b5 bd;refine eI [_,_,_] bd ?_;intro b6 b7 be _ _;revert O X;refine eE be ?_;intro O X;refine eK ?_;refine B4 rfl rfl rfl (λbf=>?_) (λbf=>?_);refine kR ?_;rotate_left;refine eK ?_;refine BP rfl (λbg=>?_) (λbg=>?_)
      refine kR ?_;rotate_left;refine kR ?_;rotate_left
     all_goals exact ⟨by simp [*],X⟩
   . rw [AT Ab];clear ax;refine Ad func146 ntmps146 rfl rfl ?_;refine cS (eB [_,_,_,_,_,_] ?_);intro cq cr Y bt _ _;revert hs X V h G;refine eE bt ?_;intro hs X V h G;refine eB [_,_,_,_] ?_;intro ct cu U bh _ _;revert Y hs X V h G;refine eE bh ?_;intro Y hs X V h G;refine eK ?_;refine C1 (Pw V) (cC rfl (HF.out _ _ _ _ Af) ?_);rintro _ b9 ⟨⟨⟩,bi⟩;revert U Y X h G;refine eE bi ?_;intro U Y X h G;refine eK ?_;refine xA [_,_,_] ?_;intro ca cb ae;refine De [_,_,_] Ac rfl rfl rfl rfl rfl rfl ae rfl ?_;intro cc ae;have aa:=ae.blk;dsimp only at aa;have bj:=ae.ext;revert U Y X h G;refine eE bj ?_;intro U Y X h G;refine kC (HP.out _ Af) ?_;rintro _ av ⟨⟨⟩,bk⟩;revert aa U Y X G;refine eE bk ?_;intro aa U Y X G;refine eK ?_;refine Ap (λwz=>Ext av wz) 13 (.pure 0 (.pure 1 (.pure 2 (.pure 3 (.pure 4 (.pure 5 (.pure 6 (.pure 7 (.pure 8 (.pure 9 (.pure 10 (.pure 11 (.pure 12 .tail))))))))))))) mixed AR (Aa (Aa Ag)) ?_;intro bl aw _;have aj:(λwz=>Ext av wz) bl:=aw;simp only at aj;have am:=U;have az:=Y;have ai:=G;revert aa X;refine eE aw ?_;intro aa X;refine ⟨aj,?_⟩;refine Tq rfl Mv (Tq rfl V3 (Tq rfl Mv (eN rfl (A1 Ac rfl rfl rfl) (eN rfl (Ar Ac rfl rfl rfl (λwz hz=>mC (my am hz) rfl)) (eN rfl (DM Ac rfl rfl) (eN rfl (A1 Ac rfl rfl rfl) (eN rfl (Ar Ac rfl rfl rfl (λwz hz=>mC (my az hz) rfl)) (eN rfl (Aw rfl) (eN rfl (AK Ac rfl rfl rfl rfl Ab Ab) (eN rfl (A1 Ac rfl rfl rfl) (eN rfl (Ar Ac rfl rfl rfl (λwz hz=>Row.at (mw ai hz) rfl)) ?_)))))))))))
     refine eN rfl (DM Ac rfl rfl) ?_;refine Aq rfl ?_;refine kR ?_;all_goals exact ⟨rfl,X⟩
structure FS (c fb m:Nat) (w:wD) (v:Value):Prop where
 cell:Blk w fb [v]
 own:OwnQ (Ha 4) w (λ_=>False) c 165 v (iK m ())
 ne:v.ownBlock≠some fb
 le:c<=w.heap.size
structure Eff (fb:Nat) (w:wD) (v:Value) (w':wD) (v':Value):Prop where
 fr:Fr (λk=>k=fb\/v.ownBlock=some k) w w'
 new:∀g,v'.ownBlock=some g->v.ownBlock=some g\/w.heap.size<=g
def Eff.of_ext (x:Ext w w'):Eff j w v w' v:=⟨⟨x.os,x.tape,x.output,x.size,λ_ M _=>x.block M⟩,λ_ h=>gA h⟩
def Eff.trans {G:Nat} {w w1 N:wD} {v O U:Value} (h:Eff G w v w1 O) (k:Eff G w1 O N U):Eff G w v N U:=by
 have X:=h.fr.size;refine ⟨⟨k.fr.os.trans h.fr.os,k.fr.tape.trans h.fr.tape,k.fr.output.trans h.fr.output,jR X k.fr.size,λi Y M=>?_⟩,λg Z=>?_⟩
 . refine (k.fr.block i Ab (λe=>?_)).trans (h.fr.block i Y M);rcases e with e|e
   . exact M (gA e)
   . rcases h.new i e with e|e
     . exact M (gB e)
     . omega
 . rcases k.new g Z with V|V
   . exact h.new g V
   . exact gB Ab
def Kp (fb:Nat) (w:wD) (v:Value) (b:Nat):Prop:=b<w.heap.size/\b≠fb/\v.ownBlock≠some b
def Kp.eff {M:Value} {b:Nat} (h:Kp j w v b) (k:Eff j w v w' M):Kp j w' M b:=by
 have:=k.fr.size;refine ⟨by have:=h.1;omega,h.2.1,λe=>?_⟩;rcases k.new b e with e|e
 . exact h.2.2 e
 . have:=h.1;omega
def Kp.grow {b:Nat} (h:Kp j w v b) (M:w.heap.size<=w'.heap.size):Kp j w' v b:=⟨jN h.1 M,h.2⟩
def Kp.not {b:Nat} (h:Kp j w v b):¬(b=j\/v.ownBlock=some b):=λe=>e.elim h.2.1 h.2.2
def FS.ext {c G m:Nat} {w w':wD} {v:Value} (h:FS c G m w v) (x:Ext w w'):FS c G m w' v:=⟨h.cell.ext x,h.own.ext x,h.ne,jR h.le x.size⟩
instance {m:Nat}:LfE w w' (FS c j m w v) (FS c j m w' v):=⟨λx h=>Bk.FS.ext h x⟩
def FS.fr {c G m:Nat} {S:nP} {w w':wD} {v:Value} (h:FS c G m w v) (x:Fr S w w') (M:∀k,S k->k≠G/\v.ownBlock≠some k):FS c G m w' v:=⟨h.cell.fr x (λe=>(M _ e).1 rfl),h.own.fr x (λk N=>⟨id,(M k N).2⟩),h.ne,jR h.le x.size⟩
instance {m:Nat}:LfF S w w' (FS c j m w v) (∀k,S k->k≠j/\v.ownBlock≠some k) (FS c j m w' v):=⟨λx s h=>Bk.FS.fr h x s⟩
def RepR (c fb m:Nat) (w:wD) (v:Value):Ending->wD->Prop:=λe w'=>e = .returned (.tuple #[]) /\ ∃v',FS c fb m w' v'/\Fr (λk=>k=fb\/v.ownBlock=some k) w w' /\ ∀g,v'.ownBlock=some g->v.ownBlock=some g\/w.heap.size<=g
def RepR.ret {m:Nat} (h:RepR c j m w v e w'):∃v,e = .returned v:=⟨_,h.1⟩
def He (c fb m:Nat) (v:Value) (p Y:Int) (s:lB) (S:nP) (pa:oA) (pn pc:Nat) (w:wD) (hm:m<=1000000000) (hn:pn<=1000000) (hp:PathAt S w pa pn pc) (hf:FS c fb m w v) :
 Calls prog 104 #[.int .i64 p,.slice pa pn pc,str s,.int .i64 Y,.pointer (some ⟨fb,0,none⟩)] w (RepR c fb (m+Oh Y) w v):=by
 obtain ⟨N,Z,ad,hc⟩:=hf;have HC:=fZ (λ(w:wD) (h:PathAt S w pa pn pc)=>h.clone hn);have X:=Ne w;by_cases he:Y=0
 . subst he;have e0:m+Oh 0=m:=rfl;rw [e0];refine Ad func104 ntmps104 rfl rfl ?_;refine cS (C1 Mv (C1 V2 (cT (MS (Am (Bi rfl ?_))))));exact ⟨rfl,v,⟨N,Z,ad,by have:=X.size;omega⟩,(Eff.of_ext X).fr,λ_ h=>gA h⟩
 . have e1:Oh Y=1:=AC he;rw [e1];have af:∀g,v.ownBlock=some g->g<w.heap.size/\g≠fb:=λg hg=>⟨Z.lt hg,λe=>ad (e▸hg)⟩
   have a0:=N.lt;have ae:iK m ()++[()]=iK (m+1) ():=by rw [l7]
   have al:(iK m ()).length<=1000000000:=by simp;omega
   have O:=mx (λk=>k=fb\/v.ownBlock=some k) w;refine Ad func104 ntmps104 rfl rfl ?_;refine eK ?_;refine Ap (λwz=>Ext w wz) 8 (.pure 0 (.pure 1 (.pure 2 (.pure 4 (.pure 5 (.fork 3 (.pure 6 (.fork 7 .tail .none)) .none)))))) mixed AR Ag ?_;intro aj ag _;have G:(λwz=>Ext w wz) aj:=ag;simp only at G;have am:=N;revert hp N Z O;refine eY ag ?_;intro a1 hp N Z O;refine ⟨G,?_⟩;refine eT ?_;refine tC rfl rfl (HC.out _ Af) ?_;rintro _ a2 ⟨a3,a4,⟨⟩,ak⟩;revert G N Z O;refine eY ak ?_;intro an G N Z O;refine ⟨G,?_⟩;refine Tq rfl (xB [_,_,_,_]) ?_;refine Ax rfl (xS [_,_,_,_]) rfl ?_ aFh Au;rintro _ ao ⟨ap,rfl,M,aq⟩;have ar:=M.blk;have ah:=M.ext;have au:=M.pos;have av:=M.size;revert G N Z O;refine eE ah ?_;intro G N Z O;refine ⟨G,?_⟩;refine Aq rfl ?_;refine Az (E4 (R:=λ_=>False) (sh:=Ha 4) (z:=()) Ac Ca rfl rfl rfl rfl AR rfl rfl rfl Af (λ_ h=>by exact h) (mJ Af) ⟨rfl,rfl⟩ Ab Ab) rfl ?_ aFh;rintro _ aw ⟨U,ai,rfl,aa,V,ax,ab⟩;clear hp;have N:=mu N ab (λh=>by have:=af _ h;omega);clear Z;have O:=mB O ab (λk hk=>gA (gB hk));refine eS [_] N ?_;intro ay az ac _;clear N;have aa:=OwnQ.fr aa ac (λk hk=>⟨id,λe=>by (obtain rfl:=gJ (show some U=some k from e);rcases V with h|h;have:=af _ h;omega;omega)⟩);have O:=O.fr ac Ab;refine Al (Bi rfl ?_)
   have a5:=O.size;refine ⟨rfl,_,⟨Af,by rw [<-ae];assumption,λe=>?_,Ab⟩,O,λg hg=>?_⟩
   . obtain rfl:=gJ (show some U=some fb from e);rcases V with h|h
     . exact ad h
     . omega
   obtain rfl:=gJ (show some U=some g from hg);rcases V with h|h
   . exact gA h
   . exact gB Ab
def Wg (c fb:Nat) (rf:FuncId) (ca:lV) (E:wD->Value->Prop):Prop:=
 (∀w v w' v',E w v->Eff fb w v w' v'->E w' v') /\
 ∀(m:Nat) (v:Value) (err:Int) (s:lB) (S:nP) (pa:oA) (pn pc:Nat) (w:wD),m<=1000000000->pn<=1000000->PathAt S w pa pn pc->FS c fb m w v->E w v ->
  Calls prog rf ([.slice pa pn pc,str s,.int .i64 err]++ca).toArray w (RepR c fb (m+Oh err) w v)
def LP (fb:Nat):Value:=.func (.func 104) #[] #[.pointer (some ⟨fb,0,none⟩)]
def Uv (c G N O:Nat) (i:Int):Wg c G 108 [.pointer (some ⟨N,0,none⟩),.pointer (some ⟨O,0,none⟩)] (λw v=>Blk w N [LP G]/\Blk w O [.int .i64 i]/\Kp G w v N/\Kp G w v O):=by
 refine ⟨λw v w' v' ⟨U,V,h3,X⟩ k=>⟨U.fr k.fr h3.not,V.fr k.fr X.not,h3.eff k,X.eff k⟩,?_⟩;rintro m v M s S Z pn pc w hm hn hp hf ⟨U,V,-,-⟩;have HR:=fZ (He c G m v i M s S Z pn pc w hm hn hp hf);unfold LP at U;show Calls prog 108 #[.slice Z pn pc,str s,.int .i64 M,.pointer (some ⟨N,0,none⟩),.pointer (some ⟨O,0,none⟩)] w _;have Y:=mx (λk=>k=G\/v.ownBlock=some k) w;refine Ad func108 ntmps108 rfl rfl (eK ?_);refine Az (Bb (fi:=[]) (ca:=[.pointer (some ⟨G,0,none⟩)]) AR rfl rfl HR.out (λ_ _ h=>h.ret)) rfl ?_ aFh;rintro _ w5 ⟨⟨⟩,aa,V,f3,X⟩;have Y:=mB Y f3 (λk hk=>gA hk);refine Al (Bi rfl ?_);exact ⟨rfl,_,Af,Y,Af⟩
def Uw (c G N O:Nat) (g:PG) (va:oA) (vc:Nat) (U:oA) (V:Nat) (ma:oA) (mc:Nat):Wg c G 109 [.pointer (some ⟨N,0,none⟩),.pointer (some ⟨O,0,none⟩)] (λw v=>Blk w N [LP G]/\Blk w O (g.cells va vc U V ma mc)/\Kp G w v N/\Kp G w v O):=by
 refine ⟨λw v w' v' ⟨X,Y,h3,Z⟩ k=>⟨X.fr k.fr h3.not,Y.fr k.fr Z.not,h3.eff k,Z.eff k⟩,?_⟩;rintro m v M s S pa pn pc w hm hn hp hf ⟨X,Y,-,-⟩;have HR:=fZ (He c G m v g.procs.length M s S pa pn pc w hm hn hp hf);unfold LP at X;show Calls prog 109 #[.slice pa pn pc,str s,.int .i64 M,.pointer (some ⟨N,0,none⟩),.pointer (some ⟨O,0,none⟩)] w _;have X2:=mx (λk=>k=G\/v.ownBlock=some k) w;refine Ad func109 ntmps109 rfl rfl (eK ?_);refine Az (Bb (fi:=[]) (ca:=[.pointer (some ⟨G,0,none⟩)]) AR rfl rfl HR.out (λ_ _ h=>h.ret)) rfl ?_ aFh;rintro _ w5 ⟨⟨⟩,aa,Y,f3,Z⟩;have X2:=mB X2 f3 (λk hk=>gA hk);refine Al (Bi rfl ?_);exact ⟨rfl,_,Af,X2,Af⟩
end Bk
