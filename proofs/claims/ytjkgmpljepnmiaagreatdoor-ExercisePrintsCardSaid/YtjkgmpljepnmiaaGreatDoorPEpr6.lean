/- Texts that the proofs of ExercisePrints need. No condition. (Part 6 of 8.) -/
import Derived.Test.YtjkgmpljepnmiaaGreatDoorPEpr5
set_option linter.unusedSimpArgs false
set_option linter.unusedVariables false
set_option linter.defProp false
set_option maxRecDepth 100000
set_option maxHeartbeats 4000000
open Go.Proofs.Tryz
open List renaming length_append->aU,length_cons->aV,getElem_cons_succ->aW,length_nil->aX,getElem?_eq_getElem->aY,set_cons_zero->aZ,getElem_mem->bD,take_succ_eq_append_getElem->bE,take_length->bH,mem_cons->bR,getElem?_eq_none->bS,not_mem_nil->bX,replicate->cB,append_assoc->cF,length_take->cH,flatten_cons->cI,take_append_drop->cL,drop_eq_getElem_cons->cW,all_eq_true->cX,getD_eq_getElem?_getD->dC,getElem?_append_left->dD,take_succ_cons->dE,mem_singleton->dG
open Go.Lib renaming hid->bA,indexByte->dA
open Bool renaming and_eq_true->bB,false_eq_true->dH
open Or renaming inl->bC,inr->bF
open Go.Result renaming andThen->bG
open Nat renaming zero_le->bI,le_refl->bJ,blt->bM,lt_or_ge->bQ,le_trans->cD,le_of_ble_eq_true->cE,eq_of_beq_eq_true->cQ,ble->cY,beq->cZ
open Option.some renaming injEq->bK,inj->bO
open Go.Sem renaming run_bind->bL,run_pure->bW
open Go renaming Calls->bN
open Go.IntWalk renaming i64_in->bT
open Go.Region renaming ready->bU,binds->dB
open Go.Value.slice renaming injEq->bZ
open Go.DataW renaming trod->cG
open Array renaming getElem?_eq_none->cJ
open List.cons renaming injEq->cK
open Prod.mk renaming injEq->cO
open Go.Value renaming slice->cP,ownBlock->cV,bool->dF
open Go.Addr renaming add->cU
open Bk.Ext renaming refl->dI,alloc->dJ,trans->dK,drew->dX
open Bk.Nd renaming size->dL,kind->dM,kids->dN,name->dO,text->dT,num->dU,val->dW,sits->dY,cells->eR,linesT->fB,stmtT->fL
open Bk.Row renaming ext->dZ
open Bk.TB renaming blk->eH
open Bk.Fb renaming refl->fI
namespace Bk
open Go Go.RowKit Go.Proofs
def VC (N:Nat) : ∀t:Nd,t.size<N->t.wf->t.isExpr=true->Prints 192 dT t:=by
 induction N with
 | zero=>intro t h;omega
 | succ N O=>
  rintro ⟨k,n,s,l⟩ U L f;simp only [Nd.wf,dL] at L U;obtain ⟨Z,aa,V,X,ab,ac,E⟩:=L;by_cases Y:k=1
  . subst Y;exact YN n s l V X
  by_cases c2:k=2
  . subst c2;exact YO n s l
  by_cases c4:k=4
  . subst c4;exact YP n s l
  by_cases c5:k=5
  . subst c5;exact YQ n s l
  rw [Nd.isExpr.eq_def] at f;simp only [Y,c2,c4,c5,or_self,if_false,false_or] at f;by_cases c3:k=3
  . subst c3;rcases l with _|⟨x,_|⟨y,l⟩⟩
    . simp at f
    . simp at f;simp only [Am,A3] at U E;exact YR n s x (O x Ab E.1 f.2)
    . simp at f
  simp only [c3,if_false] at f;by_cases M:k=6\/k=7
  . rcases l with _|⟨x,_|⟨y,l⟩⟩
    . simp [M] at f
    . simp [M] at f;simp only [Am,A3] at U E;exact Xo k n s x M (O x Ab E.1 f.2)
    . simp [M] at f
  simp only [M,if_false] at f;by_cases F:8<=k/\k<=23
  . rcases l with _|⟨x,_|⟨y,_|⟨z,l⟩⟩⟩
    . simp [F] at f
    . simp [F] at f
    . simp [F] at f;simp only [Am,A3] at U E;exact VB k n s x y F.1 F.2 (O x Ab E.1 f.2.1) (O y Ab E.2.1 f.2.2)
    . simp [F] at f
  . simp [F] at f
def CH (t:Nd) (f:t.wf) (h:t.isExpr=true):Prints 192 dT t:=VC (t.size+1) t Ab f h
def Cg {s:lB} (h:A9 s=true):s.length<=16:=by
 simp only [A9,bB,decide_eq_true_eq] at h;exact h.1.1.1.2
def GG (s:lB) (q:Bool):(wrap s q).length<=s.length+2:=by
 unfold wrap;split<;>simp
def FY (k:Int):(BQ k).length<=2:=by
 by_cases h:k.toNat<43
 . have key : ∀i:Fin 43,(symbols.getD i.val []).length<=2:=by decide
   exact key ⟨k.toNat,h⟩
 . unfold BQ;rw [dC,bS (show 43<=k.toNat by omega)];simp
def text_len (N:Nat) : ∀t:Nd,t.size<N->t.wf->t.isExpr=true->t.text.length<=30*t.size:=by
 induction N with
 | zero=>intro t h;omega
 | succ N L=>
  rintro ⟨k,n,s,l⟩ M F f;simp only [Nd.wf,dL] at F M ⊢;obtain ⟨aa,ab,O,U,ac,ad,E⟩:=F;rw [Nd.isExpr.eq_def] at f;rw [Nd.text.eq_def];simp only [] at f ⊢;by_cases V:k=1
  . have:=Lib.itoa_length_le n O U;rw [AU V];omega
  rw [AE V] at f ⊢;by_cases c2:k=2\/k=4\/k=5
  . rw [AU c2] at f;simp only [named,bB] at f;have:=Cg f.1.2;rcases c2 with rfl|rfl|rfl
    . simp;omega
    . simp;omega
    . simp;omega
  rw [AE c2] at f;have e2 : ¬k=2:=by omega
  have e4 : ¬k=4:=by omega
  have e5 : ¬k=5:=by omega
  rw [AE e2];by_cases c3:k=3
  . rw [AU c3] at f ⊢;rcases l with _|⟨x,_|⟨y,l⟩⟩
    . simp at f
    . simp only [named,bB] at f;have:=Cg f.1.2;simp only [Am,A3] at M E ⊢;have X:=L x Ab E.1 f.2;simp;omega
    . simp at f
  rw [AE c3] at f ⊢;rw [AE e4,AE e5];have ae:=FY k;by_cases Y:k=6\/k=7
  . rw [AU Y] at f ⊢;rcases l with _|⟨x,_|⟨y,l⟩⟩
    . simp at f
    . simp only [bB] at f;simp only [Am,A3] at M E ⊢;have X:=L x Ab E.1 f.2;have hw:=GG x.text (Dk x.kind);simp only [aU];omega
    . simp at f
  rw [AE Y] at f ⊢;by_cases Z:8<=k/\k<=23
  . rw [AU Z] at f;rcases l with _|⟨x,_|⟨y,_|⟨z,l⟩⟩⟩
    . simp at f
    . simp at f
    . simp only [bB] at f;simp only [Am,A3] at M E ⊢;have X:=L x Ab E.1 f.2.1;have hy:=L y Ab E.2.1 f.2.2;have hw:=GG x.text (Ei x.kind k);have hv:=GG y.text (ED y.kind k);simp only [aU,aV,aX];omega
    . simp at f
  . rw [AE Z] at f;simp at f
def YS (k:Int) (w:wD) (h0:0<=k) (h1:k<=255):Calls prog 191 #[.int .u8 k] w fun e w'=>e = .returned (str (CJ k))/\w=w':=by
 go_enter func191,ntmps191
 go_wp2_with fail
 all_goals go_ret
 all_goals (refine ⟨CS ?_,rfl⟩;(try simp only [beq_iff_eq,beq_eq_false_iff_ne,ne_eq,bne_iff_ne,decide_eq_true_eq,decide_eq_false_iff_not] at *);first|(subst k;rfl)|(unfold CJ;(repeat' split)<;>first|rfl|omega))
def TR (k:Int) (w:wD) (h0:0<=k) (h1:k<=255) (ht:Tabs w):Calls prog 193 #[.int .u8 k] w fun e w'=>e = .returned (str (EM k))/\w=w':=by
 have HT:=bA ht;clear ht
 by_cases h56:k=56
 . subst h56
   go_enter func193,ntmps193
   go_wp2_with fail
   go_ret
   exact ⟨rfl,rfl⟩
 by_cases h43:k=43
 . subst h43
   go_enter func193,ntmps193
   go_wp2_with fail
   go_ret
   exact ⟨rfl,rfl⟩
 have hu:EM k=BQ k:=by unfold EM;rw [AE h56,AE h43]
 rw [hu]
 have d1:(k==56)=false:=by simpa using h56
 have d2:(k==43)=false:=by simpa using h43
 clear hu h56 h43
 go_enter func193,ntmps193
 go_wp2_with (go_at_call 160;refine (FX _ _ h0 h1 HT.out).mono ?_;rintro e w1 ⟨rfl,rfl⟩)
 go_ret
 exact ⟨rfl,rfl⟩
open Go.Sort
def OD {P:Program} {B:Nat} {w w':wD} {name:String} {k:IntKind} {f:List Int} (h:Lib.TabIs P w name k f) (E:Below B w w') (F : ∀g,P.globalNamed name=some g->g<B):Lib.TabIs P w' name k f:=by
 unfold Lib.TabIs World.var? at *;cases hn:P.globalNamed name with
 | none=>rw [hn] at h;simp at h
 | some g=>rw [hn] at h;simp only [Option.bind_some] at h ⊢;rw [E.block g (F g hn)];exact h
def Tabs.belowF {B:Nat} {w w':wD} (h:Tabs w) (E:Below B w w') (M:prog.globals.size<=B):Tabs w':=by
 have h1:1<prog.globals.size:=of_decide_eq_true Bl;have N:2<prog.globals.size:=of_decide_eq_true Bl;refine ⟨fun i F=>(Below.cell (p:=⟨1,i,none⟩) E (by show 1<B;omega)).trans (h.sym i F),OD h.pow E fun g f=>?_⟩
 have L:prog.globalNamed "internal/strconv.uint64pow10" = some 2:=by kernel_rfl
 rw [L] at f
 injection f with f
 omega
def Tabs.extF {w w':wD} (h:Tabs w) (x:Ext w w') (f:prog.globals.size<=w.heap.size):Tabs w':=h.belowF x f
structure TabsF (w:wD):Prop where
 t:Tabs w
 g:prog.globals.size<=w.heap.size
def TabsF.ext {w w':wD} (h:TabsF w) (x:Ext w w'):TabsF w':=⟨h.t.extF x h.g,cD h.g x.size⟩
instance {w w':wD}:LfE w w' (TabsF w) (TabsF w'):=⟨fun x h=>Bk.TabsF.ext h x⟩
def TabsF.fr {S:nP} {w w':wD} (h:TabsF w) (x:Fr S w w') (f : ∀k,S k->prog.globals.size<=k):TabsF w':=
 ⟨h.t.belowF (B:=prog.globals.size) ⟨x.os,x.tape,x.output,x.size,fun k F=>x.block k (by have:=h.g;omega) (fun E=>by have:=f k E;omega)⟩ (bJ _),cD h.g x.size⟩
instance {S:nP} {w w':wD}:LfF S w w' (TabsF w) (∀k,S k->prog.globals.size<=k) (TabsF w'):=⟨fun x s h=>Bk.TabsF.fr h x s⟩
def TS (w:wD) (k:Nat) (f:Array Obj):Ext w (grow (w.drewN k) f):=by
 have h:(grow (w.drewN k) f).heap=w.heap++f:=rfl;refine ⟨rfl,rfl,rfl,?_,fun i E=>?_⟩
 . rw [h];simp
 . rw [h,Array.getElem?_append_left E]
def Sz (n:Int) (w:wD) (f:TabsF w) (h : -9223372036854775808<=n) (h1:n<=9223372036854775807) :
 Calls prog 62 #[.int .i64 n] w fun e w'=>e = .returned (str (Lib.itoa n))/\Ext w w':=
 (Tryz.strconv_Itoa n h h1 w f.t.pow).mono fun e w' ⟨E,k,os,hw⟩=>⟨E,hw▸TS w k os⟩
def aP:BT 69:=⟨by kernel_rfl,Az⟩
def U8 (w:wD) (k:Nat):Prop:= ∃c fz,w.heap[k]? = some (.cells c 5 fz)
structure BdF (w:wD) (b:Nat) (l:lB) (H:Nat):Prop where
 is:Lib.IsBuilderF 69 5 b b (Lib.byteCells l) w
 own : ∀p v,w.heap[b]? = some (.cells #[p,v] 69 (0,0)) -> ∀g,v.ownBlock=some g->g<H
 lt:b<w.heap.size
def Lm {w:wD} {b:Nat} {o:Obj} (h:w.heap[b]? = some o):b<w.heap.size:=by
 rcases bQ b w.heap.size with f|f
 . exact f
 . rw [cJ f] at h;cases h
def BdF.fr {w w':wD} {b:Nat} {l:lB} {H:Nat} {S:nP} (h:BdF w b l H) (x:Fr S w w') (L : ∀k,S k->k≠b/\H<=k):BdF w' b l H:=by
 have f:w'.heap[b]? = w.heap[b]? := x.block b h.lt (fun E=>(L b E).1 rfl);have key : ∀p,Lib.BuilderAtF 69 5 b b p (Lib.byteCells l) w->Lib.BuilderAtF 69 5 b b p (Lib.byteCells l) w':=by
  rintro p ⟨h1,v,M,U,V⟩;refine ⟨h1,v,by rw [f];exact M,?_,V⟩;obtain ⟨N,X|⟨g,cap,F,Y,rfl,Z,O,k5⟩⟩:=U
  . exact ⟨N,bC X⟩
  . have hg:=h.own p _ M g rfl;exact ⟨N,bF ⟨g,cap,F,Y,rfl,Z,by rw [x.block g (Lm O) (fun E=>by have:=(L g E).2;omega)];exact O,k5⟩⟩
 refine ⟨h.is.imp (key _) (key _),fun p v hv=>h.own p v (by rw [<-f];exact hv),Nat.lt_of_lt_of_le h.lt x.size⟩
instance {w w':wD} {b:Nat} {l:lB} {H:Nat} {S:nP}:LfF S w w' (BdF w b l H) (∀k,S k->k≠b/\H<=k) (BdF w' b l H):=⟨fun x s h=>Bk.BdF.fr h x s⟩
def BdF.ext {w w':wD} {b:Nat} {l:lB} {H:Nat} (h:BdF w b l H) (x:Ext w w'):BdF w' b l H:=h.fr (S:=fun _=>False) (Fr.of_ext x) (fun _ h=>h.elim)
instance {w w':wD} {b:Nat} {l:lB} {H:Nat}:LfE w w' (BdF w b l H) (BdF w' b l H):=⟨fun x h=>Bk.BdF.ext h x⟩
def VE {w:wD} {b:Nat} {l:lB} (h:Lib.IsBuilderF 69 5 b b (Lib.byteCells l) w):BdF w b l w.heap.size:=by
 refine ⟨h,fun p v F g E=>?_,?_⟩
 . have key : ∀q,Lib.BuilderAtF 69 5 b b q (Lib.byteCells l) w->g<w.heap.size:=by
    rintro q ⟨-,O,f,L,-⟩;rw [F] at f;simp only [bK,Obj.cells.injEq,Array.mk.injEq,cK,and_true] at f;obtain ⟨rfl,rfl⟩:=f;obtain ⟨-,⟨rfl,-⟩|⟨U,cap,M,V,rfl,-,N,-⟩⟩:=L
    . cases E
    . simp only [cV,bK] at E;subst E;exact Lm N
   exact h.elim (key _) (key _)
 . exact h.elim (fun ⟨_,_,f,_⟩=>Lm f) (fun ⟨_,_,f,_⟩=>Lm f)
def Yf {w w':wD} {b:Nat} (h:Below b w w') (N:Lib.OthersKept 5 (some b) w w'):Fr (fun k=>k=b\/(b<=k/\U8 w k)) w w':=by
 refine ⟨h.os,h.tape,h.output,h.size,fun k O M=>?_⟩;by_cases f:k<b
 . exact h.block k f
 . have E:k≠b:=fun e=>M (bC e)
   have F : ¬U8 w k:=fun e=>M (bF ⟨Ab,e⟩)
   have L:w.heap[k]? = some w.heap[k]:=Array.getElem?_eq_getElem O;rw [L];exact N k _ L (by simpa using E) (fun c U e=>F ⟨c,U,by rw [L,e]⟩)
def Mk (s:lB):Lib.strCells ⟨s.toArray⟩=Lib.byteCells s:=rfl
def VF (b:Nat) (l s:lB) (H:Nat) (w:wD) (h:BdF w b l H) (f:l.length+s.length<=140737488355328) :
 Calls prog 31 #[.pointer (some ⟨b,0,none⟩),str s] w fun e w'=>e = .returned (.tuple #[.int .i64 s.length,.nilIface])/\BdF w' b (l++s) w'.heap.size/\Fr (fun k=>k=b\/(b<=k/\U8 w k)) w w':=
 (IR 69 aP b b (Lib.byteCells l) ⟨s.toArray⟩ w h.is (by rw [Lib.byteCells_length];exact f) (Nat.le_of_lt h.lt)).mono fun e w' ⟨h1,h2,h3⟩=>
  ⟨h1,VE (by rw [Mk] at h2;simpa [Lib.byteCells] using h2),Yf h3.below h3.kept⟩
def TU (b:Nat) (l:lB) (H:Nat) (w:wD) (h:BdF w b l H) :
 Calls prog 35 #[.pointer (some ⟨b,0,none⟩)] w fun e w'=>e = .returned (str l)/\Fr (fun k=>k=b\/(b<=k/\U8 w k)) w w':=
 (Mf 69 b b l w h.is (Nat.le_of_lt h.lt)).mono fun e w' ⟨h1,h2,h3⟩=>⟨h1,Yf h3.below h3.kept⟩
def Xp {w:wD} {k:Nat} {vs:lV} {T:TypeId} (h:TB w k vs T) (f:T≠5) : ¬U8 w k:=by
 rintro ⟨c,E,e⟩;rw [TB] at h;rw [h] at e;simp only [bK,Obj.cells.injEq] at e;exact f e.2.1
def GH {P:Program} {n:Nat} {l:Sl} {w:wD} {Q:Exit->Act->wD->Prop} {x y:Code} {ι:Type} (L:ι->Sl) (I:ι->wD->Prop) (h:CW P n x (Exit.then (fun a w=> ∃i,Env n (L i) a/\I i w) Q) l w) (k : ∀i w,I i w->CW P n y Q (L i) w):CW P n x (Exit.then (Code.wp P y Q) Q) l w:=by
 unfold CW at h k ⊢;intro a f;refine Code.wp_mono (fun e a w q=>?_) (h a f);cases e with
 | normal=>
  obtain ⟨i,E,F⟩:=q;exact k i w F a E
 | _=>exact q
structure FbX (B b:Nat) (u w:wD):Prop where
 le:B<=u.heap.size
 base:B<=b
 fb:Fb B b u w
def FbX.ext {B b:Nat} {u w w':wD} (h:FbX B b u w) (x:Ext w w'):FbX B b u w':=⟨h.le,h.base,h.fb.ext h.le x⟩
instance {B b:Nat} {u w w':wD}:LfE w w' (FbX B b u w) (FbX B b u w'):=⟨fun x h=>Bk.FbX.ext h x⟩
def Bld.to {B b:Nat} {l f:lB} {w:wD} (h:Bld B b l w) (e:l=f):Bld B b f w:=e▸h
def FbX.step {B b h:Nat} {u w w':wD} {cs:lV} (E:FbX B b u w) (x:Fb B b w w') (f:TB w h cs 32) (h1:h≠b):FbX B b u w'/\Fr (fun k=>B<=k/\k≠h) w w':=by
 refine ⟨⟨E.le,E.base,E.fb.trans x⟩,x.below.os,x.below.tape,x.below.output,x.below.size,fun k M L=>?_⟩;by_cases F:k<B
 . exact x.below.block k F
 . obtain rfl:k=h:=Classical.not_not.1 (fun e=>L ⟨Ab,e⟩);rw [TB] at f;rw [f];exact x.kept k _ f (by simpa using h1) (fun c N e=>by injection e with _ e;exact absurd e Az)
def Ih (B b b1:Nat) (u:wD) (l:lB) (w:wD):Ending->wD->Prop:=fun e w'=>e = .returned (.tuple #[])/\Bld B b l w'/\FbX B b u w'/\Fr (fun k=>B<=k/\k≠b1) w w'
def Rz (B b F:Nat) (u:wD) (f:List lB) (l:lB) (w:wD) (h:Bld B b l w) (O:FbX B b u w) {cs:lV} (L:TB w F cs 32) (h1:F≠b) (M N:Nat) (U:TB w M (f.map str) 9) (V:f.length<=100) (E:l.length+f.flatten.length<=140737488355328) :
 Calls prog 58 #[.pointer (some ⟨b,0,none⟩),.slice (some ⟨M,0,none⟩) f.length N] w (Ih B b F u (l++f.flatten) w):=
 (Cj B b M N l f w h ⟨U⟩ V (by rw [aU];exact E)).mono fun _ _ ⟨X,k2,k3⟩=>⟨X,k2,O.step k3 L h1⟩
def FZ (B b f:Nat) (u:wD) (E:lB) (l:lB) (w:wD) (h:Bld B b l w) (O:FbX B b u w) {cs:lV} (F:TB w f cs 32) (h1:f≠b) (L M:Nat) (U:TB w L [str E] 9) (N:l.length+E.length<=140737488355328) :
 Calls prog 58 #[.pointer (some ⟨b,0,none⟩),.slice (some ⟨L,0,none⟩) 1 M] w (Ih B b f u (l++E) w):=by
 have:=Rz B b f u [E] l w h O F h1 L M U Bd (by simp;omega);simpa using this
def RA (B b f:Nat) (u:wD) (E F:lB) (l:lB) (w:wD) (h:Bld B b l w) (U:FbX B b u w) {cs:lV} (L:TB w f cs 32) (h1:f≠b) (M N:Nat) (V:TB w M [str E,str F] 9) (O:l.length+E.length+F.length<=140737488355328) :
 Calls prog 58 #[.pointer (some ⟨b,0,none⟩),.slice (some ⟨M,0,none⟩) 2 N] w (Ih B b f u (l++(E++F)) w):=by
 have:=Rz B b f u [E,F] l w h U L h1 M N V Bd (by simp;omega);simpa using this
def YT (B b f:Nat) (u:wD) (E F L:lB) (l:lB) (w:wD) (h:Bld B b l w) (V:FbX B b u w) {cs:lV} (M:TB w f cs 32) (h1:f≠b) (N O:Nat) (X:TB w N [str E,str F,str L] 9) (U:l.length+E.length+F.length+L.length<=140737488355328) :
 Calls prog 58 #[.pointer (some ⟨b,0,none⟩),.slice (some ⟨N,0,none⟩) 3 O] w (Ih B b f u (l++(E++(F++L))) w):=by
 have:=Rz B b f u [E,F,L] l w h V M h1 N O X Bd (by simp;omega);simpa using this
def Prints.w {f:FuncId} {OK:Nd->lB} {x:Nd} (h:Prints f OK x) (B b:Nat) (l:lB) (u w:wD) (a:oA) (c:Nat) (M:Bld B b l w) (N:TabsF w) (O:FbX B b u w) (U:prog.globals.size<=B) (V:x.sits (· < B) w a) (F:Nat) {cs:lV} (L:TB w F cs 32) (h1:F≠b) (E:l.length+(OK x).length<=140737488355328) :
 Calls prog f #[.pointer (some ⟨b,0,none⟩),x.val a c] w (Ih B b F u (l++OK x) w):=
 (h B b l w a c M N.t U V (by rw [aU];exact E)).mono fun _ _ ⟨X,k2,k3⟩=>⟨X,k2,O.step k3 L h1⟩
def PrintsD (f:FuncId) (OK:Nd->Nat->lB) (t:Nd):Prop:=
 ∀(B b:Nat) (l:lB) (w:wD) (a:oA) (c d:Nat),Bld B b l w->Tabs w->prog.globals.size<=B->t.sits (· < B) w a->d+t.size<=1000000->(l++OK t d).length<=140737488355328 ->
  Calls prog f #[.pointer (some ⟨b,0,none⟩),t.val a c,.int .i64 d] w fun e w'=>e = .returned (.tuple #[])/\Bld B b (l++OK t d) w'/\Fb B b w w'
def PrintsD.w {f:FuncId} {OK:Nd->Nat->lB} {x:Nd} (h:PrintsD f OK x) (B b:Nat) (l:lB) (u w:wD) (a:oA) (c d:Nat) (M:Bld B b l w) (N:TabsF w) (O:FbX B b u w) (U:prog.globals.size<=B) (V:x.sits (· < B) w a) (X:d+x.size<=1000000) (F:Nat) {cs:lV} (L:TB w F cs 32) (h1:F≠b) (E:l.length+(OK x d).length<=140737488355328) :
 Calls prog f #[.pointer (some ⟨b,0,none⟩),x.val a c,.int .i64 d] w (Ih B b F u (l++OK x d) w):=
 (h B b l w a c d M N.t U V X (by rw [aU];exact E)).mono fun _ _ ⟨Y,k2,k3⟩=>⟨Y,k2,O.step k3 L h1⟩
def Ii (k:Int) (w:wD) (f:0<=k) (h1:k<=255):Calls prog 191 #[.int .u8 k] w fun e w'=>e = .returned (str (CJ k))/\Ext w w':=
 (YS k w f h1).mono fun _ _ ⟨h1,h2⟩=>⟨h1,h2▸dI _⟩
def TV (k:Int) (w:wD) (f:0<=k) (h1:k<=255) (h:TabsF w):Calls prog 193 #[.int .u8 k] w fun e w'=>e = .returned (str (EM k))/\Ext w w':=
 (TR k w f h1 h.t).mono fun _ _ ⟨h1,h2⟩=>⟨h1,h2▸dI _⟩
end Bk
namespace Bk
open Go Go.RowKit Go.Proofs
attribute [local irreducible] Go.Calls
def Dh (d:Nat):(BX d).length=d:=by simp [BX]
def B8 (t:Nd) (d:Nat):(BB t d).length=(t.linesT (d+1)).length+d+4:=by
 simp [BB,Dh];omega
attribute [local simp] Dh B8
def VG (B b E:Nat) (u:wD) (l:lB) (n:Nat) (w:wD) (h:Bld B b l w) (L:FbX B b u w) {cs:lV} (F:TB w E cs 32) (h1:E≠b) (M:n<=1000000) (f:l.length+n<=140737488355328) :
 Calls prog 102 #[.pointer (some ⟨b,0,none⟩),.int .i64 n] w (Ih B b E u (l++BX n) w):=
 (YM B b l n w h M f).mono fun _ _ ⟨N,k2,k3⟩=>⟨N,k2,L.step k3 F h1⟩
def Ml (y:Nd) (hy:PrintsD 101 fB y) :
 ∀(B b:Nat) (t:lB) (w:wD) (a:oA) (c d:Nat),Bld B b t w->Tabs w->prog.globals.size<=B->y.sits (· < B) w a->d+1+y.size<=1000000->(t++BB y d).length<=140737488355328 ->
 Calls prog 59 #[.pointer (some ⟨b,0,none⟩),y.val a c,.int .i64 d] w fun e w'=>e = .returned (.tuple #[])/\Bld B b (t++BB y d) w'/\Fb B b w w':=by
 intro B b t w a c d h aa hB E hd U;simp only [aU,B8] at U;have f:TabsF w:=⟨aa,cD hB h.le⟩;have O:FbX B b w w:=⟨h.le,h.base,fI _ _ _⟩;have ai:=h.le;have aj:=h.base;have ak:=h.lt;have W1:=bA (fun F s1 l L h O cs ab h1 tb tc f hl=>FZ B b F w s1 l L h O (cs:=cs) ab h1 tb tc f hl);have HT:=bA (fun F l L h1 h2 cs h3 h4 h5=>VG B b F w l d L h1 h2 (cs:=cs) h3 h4 Ab h5);have HY:Hid (∀F l L,Bld B b l L->TabsF L->FbX B b w L->y.sits (· < B) L a -> ∀cs,TB L F cs 32->F≠b->l.length+(y.linesT (d+1)).length<=140737488355328->Calls prog 101 #[.pointer (some ⟨b,0,none⟩),y.val a c,.int .i64 ((d:Int)+1)] L (Ih B b F w (l++y.linesT (d+1)) L)):=bA fun F l L h1 h2 h3 h4 cs h5 h6 h7=>hy.w B b l w L a c (d+1) h1 h2 h3 hB h4 Ab F h5 h6 h7
 clear hy;rw [show BB y d=[32,123,10]++y.linesT (d+1)++BX d++[125] from rfl];generalize y.linesT (d+1)=ty at *;obtain ⟨yk,yn,ys,yl⟩:=y;simp only [dM,dU,dO,dN,dW] at HY ⊢;refine Af func59 ntmps59 rfl rfl ?_;refine cS (DX rfl rfl rfl ?_);intro F w2 n3 t4;have x5:=n3.ext;have p6:=n3.pos;have z7:=n3.size;revert h f O E;refine eE x5 ?_;intro h f O E;refine eK ?_;refine Au (xS [_]) rfl ?_ aFh;rintro _ w9 ⟨b8,rfl,M,ac⟩;have al:TB _ _ _ _:=ac;have ad:=M.ext;have am:=M.pos;have an:=M.size;revert t4 h f O E;refine eE ad ?_;intro t4 h f O E;refine cC rfl (W1.out F _ _ _ Ag Ag _ Ag Ab _ _ Ag (by (try simp)<;>omega)) ?_;rintro _ ao ⟨⟨⟩,⟨ap,⟨aq,V⟩⟩⟩;have z20:=V.size;revert t4 f E;refine eF V ?_;intro t4 f E;refine eK ?_;refine Bm [_,_,_,_] Ac rfl rfl rfl (eH t4) rfl rfl rfl ?_;refine eK ?_;refine cC rfl (HY.out F _ _ Ag Ag Ag Ag _ Ag Ab (by (try simp)<;>omega)) ?_;rintro _ ar ⟨⟨⟩,⟨au,⟨av,ae⟩⟩⟩;revert t4 f E;refine eZ ae ?_;intro aw t4 f E;refine eK ?_;refine cC rfl (HT.out F _ _ Ag Ag _ Ag Ab (by (try simp)<;>omega)) ?_;rintro _ ax ⟨⟨⟩,⟨X,⟨Y,af⟩⟩⟩;revert t4 f E;refine eZ af ?_;intro ay t4 f E;refine eK ?_;refine Au (xS [_]) rfl ?_ aFh;rintro _ az ⟨a0,rfl,N,ag⟩;have a1:TB _ _ _ _:=ag;have ah:=N.ext;have a2:=N.pos;have a3:=N.size;revert X Y t4 f E;refine eE ah ?_;intro X Y t4 f E;refine cC rfl (W1.out F _ _ _ Ag Ag _ Ag Ab _ _ Ag (by (try simp)<;>omega)) ?_;rintro _ a4 ⟨⟨⟩,⟨a5,⟨a6,Z⟩⟩⟩;have a7:=Z.size;revert t4 f E;refine eF Z ?_;intro t4 f E;refine Ah (Bn rfl ?_)
 all_goals exact ⟨rfl,Bld.to Ag Bd,FbX.fb Ag⟩
def JL (y:Nd) (F:PrintsD 101 fB y) (B b h:Nat) (u:wD) (l:lB) (w:wD) (a:oA) (c d:Nat) (L:Bld B b l w) (M:TabsF w) (N:FbX B b u w) (O:prog.globals.size<=B) (U:y.sits (· < B) w a) (V:d+1+y.size<=1000000) {cs:lV} (E:TB w h cs 32) (h1:h≠b) (f:l.length+((y.linesT (d+1)).length+d+4)<=140737488355328) :
 Calls prog 59 #[.pointer (some ⟨b,0,none⟩),y.val a c,.int .i64 d] w (Ih B b h u (l++BB y d) w):=
 (Ml y F B b l w a c d L M.t O U V (by rw [aU,B8];exact f)).mono fun _ _ ⟨X,k2,k3⟩=>⟨X,k2,N.step k3 E h1⟩
def Mm (k n:Int) (s:lB) (x y z u:Nd) (hx:Prints 192 dT x) (hy:PrintsD 101 fB y) (hz:PrintsD 101 fB z) (hu:Prints 192 dT u) (Z aa:lB) (B b:Nat) (t:lB) (w:wD) (a:oA) (c d:Nat)
 (h:Bld B b t w) (f:TabsF w) (hB:prog.globals.size<=B) (hs:rowSits (· < B) w [x,y,z,u] a) (hd:d+(1+Am [x,y,z,u])<=1000000) (ad:t.length+(x.text++BB y d++Z++BB z d++aa++u.text).length<=140737488355328) :
 Calls prog 194 #[.pointer (some ⟨b,0,none⟩),.agg #[.int .u8 k,.int .i64 n,str s,.slice a 4 c],.int .i64 d,str Z,str aa] w fun e w'=>e = .returned (.tuple #[])/\Bld B b (t++(x.text++BB y d++Z++BB z d++aa++u.text)) w'/\Fb B b w w':=by
 have ak:=f.t;clear f;simp only [Am] at hd;simp only [aU,B8] at ad;have f:TabsF w:=⟨ak,cD hB h.le⟩;have hF:FbX B b w w:=⟨h.le,h.base,fI _ _ _⟩;have au:=h.le;have av:=h.base;have aw:=h.lt;obtain ⟨kb,ko,rfl,kS,V⟩:=Ba hs Bd;obtain ⟨xa,xc,E,N⟩:=V 0 x rfl;obtain ⟨ya,yc,F,O⟩:=V 1 y rfl;obtain ⟨za,zc,L,sz⟩:=V 2 z rfl;obtain ⟨ua,uc,M,U⟩:=V 3 u rfl;clear V hs;have HX:=bA (fun X l Y h1 h2 h3 h4 cs h5 h6 h7=>hx.w B b l w Y xa xc h1 h2 h3 hB h4 X (cs:=cs) h5 h6 h7);have HY:=bA (fun X l Y h1 h2 h3 h4 cs h5 h6 h7=>JL y hy B b X w l Y ya yc d h1 h2 h3 hB h4 Ab (cs:=cs) h5 h6 h7);have HZ:=bA (fun X l Y h1 h2 h3 h4 cs h5 h6 h7=>JL z hz B b X w l Y za zc d h1 h2 h3 hB h4 Ab (cs:=cs) h5 h6 h7);have HU:=bA (fun X l Y h1 h2 h3 h4 cs h5 h6 h7=>hu.w B b l w Y ua uc h1 h2 h3 hB h4 X (cs:=cs) h5 h6 h7);clear hx hy hz hu;obtain ⟨xk,xn,xs,xl⟩:=x;obtain ⟨yk,yn,ys,yl⟩:=y;obtain ⟨zk,zn,zs,zl⟩:=z;obtain ⟨uk,un,us,ul⟩:=u;simp only [dM,dU,dO,dN,dW,eR] at E F L M HX HY HZ HU;have W1:=bA (fun X s1 l Y h hF cs al h1 tb tc f hl=>FZ B b X w s1 l Y h hF (cs:=cs) al h1 tb tc f hl);refine Af func194 ntmps194 rfl rfl ?_;refine cS (DX rfl rfl rfl ?_);intro X w2 n3 t4;have x5:=n3.ext;have p6:=n3.pos;have z7:=n3.size;revert h f hF E N F O L sz M U;refine eE x5 ?_;intro h f hF E N F O L sz M U;refine cN (C1 Mv (C1 Pf (C1 (Pl (eH t4)) (C1 Pi (B6 [_,_,_,_] Ac rfl rfl rfl E rfl rfl rfl (cC rfl (HX.out X _ _ Ag Ag Ag Ag _ Ag Ab (by (try simp)<;>omega)) ?_))))));rintro _ ax ⟨⟨⟩,⟨h8,⟨h9,am⟩⟩⟩;revert t4 f E N F O L sz M U;refine eZ am ?_;intro ay t4 f E N F O L sz M U;refine cN (C1 Mv (C1 Pf (C1 (Pl (eH t4)) ?_)));refine eK ?_;refine cC rfl (HY.out X _ _ Ag Ag Ag Ag _ Ag Ab (by (try simp)<;>omega)) ?_;rintro _ az ⟨⟨⟩,⟨ae,⟨af,f15⟩⟩⟩;revert t4 f E N F O L sz M U;refine eZ f15 ?_;intro a0 t4 f E N F O L sz M U;refine eK ?_;refine Au (xS [_]) rfl ?_ aFh;rintro _ a1 ⟨a2,rfl,ab,t21⟩;have t22:TB _ _ _ _:=t21;have an:=ab.ext;have a3:=ab.pos;have a4:=ab.size;revert ae af t4 f E N F O L sz M U;refine eE an ?_;intro ae af t4 f E N F O L sz M U;refine cC rfl (W1.out X _ _ _ Ag Ag _ Ag Ab _ _ Ag (by (try simp)<;>omega)) ?_
 rintro _ a5 ⟨⟨⟩,⟨a6,⟨a7,ag⟩⟩⟩;have a8:=ag.size;revert t4 f E N F O L sz M U;refine eF ag ?_;intro t4 f E N F O L sz M U;refine cN (C1 Mv (C1 Pf (C1 (Pl (eH t4)) ?_)));refine eK ?_;refine cC rfl (HZ.out X _ _ Ag Ag Ag Ag _ Ag Ab (by (try simp)<;>omega)) ?_;rintro _ a9 ⟨⟨⟩,⟨ah,⟨ai,ao⟩⟩⟩;revert t4 f E N F O L sz M U;refine eZ ao ?_;intro ba t4 f E N F O L sz M U;refine eK ?_;refine Au (xS [_]) rfl ?_ aFh;rintro _ bb ⟨bc,rfl,ac,ap⟩;have bd:TB _ _ _ _:=ap;have aq:=ac.ext;have be:=ac.pos;have bf:=ac.size;revert ah ai t4 f E N F O L sz M U;refine eE aq ?_;intro ah ai t4 f E N F O L sz M U;refine cC rfl (W1.out X _ _ _ Ag Ag _ Ag Ab _ _ Ag (by (try simp)<;>omega)) ?_;rintro _ bg ⟨⟨⟩,⟨bh,⟨bi,aj⟩⟩⟩;have bj:=aj.size;revert t4 f E N F O L sz M U;refine eF aj ?_;intro t4 f E N F O L sz M U;refine cT (Ad (C1 Mv (C1 Pf (C1 (Pl (eH t4)) ?_))));refine eK ?_;refine cC rfl (HU.out X _ _ Ag Ag Ag Ag _ Ag Ab (by (try simp)<;>omega)) ?_;rintro _ bk ⟨⟨⟩,⟨bl,⟨bm,ar⟩⟩⟩;revert t4 f E N F O L sz M U;refine eZ ar ?_;intro z53 t4 f E N F O L sz M U;refine Ah (Bn rfl ?_);all_goals exact ⟨rfl,Bld.to Ag Bd,FbX.fb Ag⟩
def GI (k:Int) (n:Int) (hk:k=40\/k=41\/k=42\/k=56\/k=43) (s:lB) (x y:Nd) (hx:Prints 192 dT x) (hy:Prints 192 dT y):PrintsD 146 fL (.mk k n s [x,y]):=by
 intro B b t w a c d h ai hB hs hd Z;have ad:(Nd.mk k n s [x,y]).stmtT d=CJ k++(x.text++([32]++EM k++[32]++y.text)):=by
  rw [Nd.stmtT.eq_def];rcases hk with rfl|rfl|rfl|rfl|rfl<;>simp [CJ]
 rw [ad] at Z ⊢;clear ad;simp only [aU,aV,aX,B8] at Z;simp only [dL,Am] at hd;have f:TabsF w:=⟨ai,cD hB h.le⟩;have V:FbX B b w w:=⟨h.le,h.base,fI _ _ _⟩;have a6:=h.le;have a7:=h.base;have a8:=h.lt;simp only [dM,dU,dO,dN,dW,dY] at hs ⊢;obtain ⟨kb,ko,rfl,kS,O⟩:=Ba hs Bd;obtain ⟨xa,xc,E,L⟩:=O 0 x rfl;obtain ⟨ya,yc,F,M⟩:=O 1 y rfl;clear O hs;have HX:=bA (fun N l w1 h1 h2 h3 h4 cs h5 h6 h7=>hx.w B b l w w1 xa xc h1 h2 h3 hB h4 N (cs:=cs) h5 h6 h7);have HY:=bA (fun N l w1 h1 h2 h3 h4 cs h5 h6 h7=>hy.w B b l w w1 ya yc h1 h2 h3 hB h4 N (cs:=cs) h5 h6 h7);clear hx hy;obtain ⟨xk,xn,xs,xl⟩:=x;obtain ⟨yk,yn,ys,yl⟩:=y;simp only [dM,dU,dO,dN,dW,eR] at E F HX HY;have W1:=bA (fun N s1 l w1 h V cs ab h1 tb tc f hl=>FZ B b N w s1 l w1 h V (cs:=cs) ab h1 tb tc f hl);have W3:=bA (fun N s1 s2 s3 l w1 h V cs ab h1 tb tc f hl=>YT B b N w s1 s2 s3 l w1 h V (cs:=cs) ab h1 tb tc f hl);refine Af func146 ntmps146 rfl rfl ?_;refine cS (DX rfl rfl rfl ?_);intro N w2 n3 t4;have x5:=n3.ext;have p6:=n3.pos;have z7:=n3.size;revert h f V E L F M;refine eE x5 ?_;intro h f V E L F M;refine cN (C1 Mv (C1 Pg (C1 (Pl (eH t4)) (cC rfl (Ii k _ Ab Ab) ?_))));rintro _ w9 ⟨⟨⟩,x8⟩;revert t4 h f V E L F M;refine eY x8 ?_;intro a9 t4 h f V E L F M;refine Au (xS [_]) rfl ?_ aFh;rintro _ ba ⟨bb,rfl,ac,aj⟩;have bc:TB _ _ _ _:=aj;have ak:=ac.ext;have bd:=ac.pos;have be:=ac.size;revert t4 h f V E L F M;refine eE ak ?_;intro t4 h f V E L F M;refine cC rfl (W1.out N _ _ _ Ag Ag _ Ag Ab _ _ Ag (by (try simp)<;>omega)) ?_;rintro _ al ⟨⟨⟩,⟨bf,⟨bg,ae⟩⟩⟩;have bh:=ae.size;revert t4 f E L F M;refine eF ae ?_;intro t4 f E L F M;refine cN (C1 Pg (C1 (Pl (eH t4)) (cT ?_)))
 refine Ar ?_;refine Fu (ι:=Unit) (fun _=>[(0,.pointer (some ⟨b,0,none⟩)),(2,.int .i64 d),(4,.pointer (some ⟨N,0,none⟩)),(15,.int .u8 k),(16,.bool true)]) (fun _ w'=>w'=al) ?_ ?_
 . focus
    refine eK ?_;refine AH rfl (fun am=>?_) (fun am=>?_);refine As ?_;rotate_left;refine eK ?_;refine AH rfl (fun an=>?_) (fun an=>?_);refine As ?_;rotate_left;refine eK ?_;refine AH rfl (fun ao=>?_) (fun ao=>?_);refine As ?_;rotate_left;refine eK ?_;refine AH rfl (fun ap=>?_) (fun ap=>?_);refine As ?_;rotate_left;refine Ad (C1 V1 (C1 Pa (Ah ?_)));rotate_left
   all_goals exact BL () (Ak rfl (Ak rfl (Ak rfl (Ak rfl (AW rfl (congrArg dF (decide_eq_true Ab)) AY))))) rfl
 rintro-u1 rfl;refine CK rfl (cS (C1 Mv (C1 Pf (C1 (Pl (eH t4)) (C1 (Ay Ac rfl rfl rfl rfl Ab (by simp only [aV,aX];omega)) (B6 [_,_,_,_] Ac rfl rfl rfl E rfl rfl rfl (cC rfl (HX.out N _ _ Ag Ag Ag Ag _ Ag Ab (by (try simp)<;>omega)) ?_)))))));rintro _ bi ⟨⟨⟩,⟨X,⟨Y,aq⟩⟩⟩;revert t4 f E L F M;refine eZ aq ?_;intro bj t4 f E L F M;refine cN (C1 Mv (C1 Pg (C1 (Pl (eH t4)) (cC rfl (TV k _ Ab Ab Ag) ?_))));rintro _ bk ⟨⟨⟩,ar⟩;revert X Y t4 f E L F M;refine eY ar ?_;intro bl X Y t4 f E L F M;refine Au (xS [_,_,_]) rfl ?_ aFh;rintro _ au ⟨bm,rfl,U,af⟩;have av:TB _ _ _ _:=af;have ag:=U.ext;have aw:=U.pos;have ax:=U.size;revert X Y t4 f E L F M;refine eE ag ?_;intro X Y t4 f E L F M;refine cC rfl (W3.out N _ _ _ _ _ Ag Ag _ Ag Ab _ _ Ag (by (try simp)<;>omega)) ?_;rintro _ ay ⟨⟨⟩,⟨az,⟨a0,aa⟩⟩⟩;have a1:=aa.size;revert t4 f E L F M;refine eF aa ?_;intro t4 f E L F M;refine cT (Ad (C1 Mv (C1 Pf (C1 (Pl (eH t4)) (C1 (Ay Ac rfl rfl rfl rfl Ab (by simp only [aV,aX];omega)) (C1 (Uz F) (cC rfl (HY.out N _ _ Ag Ag Ag Ag _ Ag Ab (by (try simp)<;>omega)) ?_)))))));rintro _ a2 ⟨⟨⟩,⟨a3,⟨a4,ah⟩⟩⟩;revert t4 f E L F M;refine eZ ah ?_;intro a5 t4 f E L F M;refine Ah (Ae (Bn rfl ?_))
 all_goals exact ⟨rfl,Bld.to Ag Bd,FbX.fb Ag⟩
def Qp (k:Int) (n:Int) (hk:k=44\/k=45) (s:lB) (x:Nd) (hx:Prints 192 dT x):PrintsD 146 fL (.mk k n s [x]):=by
 intro B b t w a c d h ae hB hs hd N;have Z:(Nd.mk k n s [x]).stmtT d=CJ k++(x.text++([44,32]++s)):=by
  rw [Nd.stmtT.eq_def];rcases hk with rfl|rfl<;>simp [CJ]
 rw [Z] at N ⊢;clear Z;simp only [aU,aV,aX,B8] at N;simp only [dL,Am] at hd;have f:TabsF w:=⟨ae,cD hB h.le⟩;have L:FbX B b w w:=⟨h.le,h.base,fI _ _ _⟩;have au:=h.le;have av:=h.base;have aw:=h.lt;simp only [dM,dU,dO,dN,dW,dY] at hs ⊢;obtain ⟨kb,ko,rfl,kS,O⟩:=Ba hs Bd;obtain ⟨xa,xc,E,F⟩:=O 0 x rfl;clear O hs;have HX:=bA (fun M l w1 h1 h2 h3 h4 cs h5 h6 h7=>hx.w B b l w w1 xa xc h1 h2 h3 hB h4 M (cs:=cs) h5 h6 h7);clear hx;obtain ⟨xk,xn,xs,xl⟩:=x;simp only [dM,dU,dO,dN,dW,eR] at E HX;have W1:=bA (fun M s1 l w1 h L cs V h1 tb tc f hl=>FZ B b M w s1 l w1 h L (cs:=cs) V h1 tb tc f hl);have W2:=bA (fun M s1 s2 l w1 h L cs V h1 tb tc f hl=>RA B b M w s1 s2 l w1 h L (cs:=cs) V h1 tb tc f hl);refine Af func146 ntmps146 rfl rfl ?_;refine cS (DX rfl rfl rfl ?_);intro M w2 n3 t4;have x5:=n3.ext;have p6:=n3.pos;have z7:=n3.size;revert h f L E F;refine eE x5 ?_;intro h f L E F;refine cN (C1 Mv (C1 Pg (C1 (Pl (eH t4)) (cC rfl (Ii k _ Ab Ab) ?_))));rintro _ w9 ⟨⟨⟩,x8⟩;revert t4 h f L E F;refine eY x8 ?_;intro ax t4 h f L E F;refine Au (xS [_]) rfl ?_ aFh;rintro _ ay ⟨az,rfl,X,af⟩;have a0:TB _ _ _ _:=af;have ag:=X.ext;have a1:=X.pos;have a2:=X.size;revert t4 h f L E F;refine eE ag ?_;intro t4 h f L E F;refine cC rfl (W1.out M _ _ _ Ag Ag _ Ag Ab _ _ Ag (by (try simp)<;>omega)) ?_;rintro _ ah ⟨⟨⟩,⟨a3,⟨a4,aa⟩⟩⟩;have a5:=aa.size;revert t4 f E F;refine eF aa ?_;intro t4 f E F;refine cN (C1 Pg (C1 (Pl (eH t4)) (cT ?_)))
 refine Ar ?_;refine Aj (cS (C1 V1 (C1 Pa (cT (C9 (cS (C1 V1 (C1 Pa (cT (C9 (cS ?_)))))))))));refine C1 V1 (C1 Pa (cT (C9 (cS (C1 V1 (C1 Pa (cT (C9 (Ad (C1 V1 (C1 Pa ?_)))))))))));refine cT (C9 (Aj ?_));refine GH (ι:=Unit) (fun _=>[(0,.pointer (some ⟨b,0,none⟩)),(2,.int .i64 d),(4,.pointer (some ⟨M,0,none⟩)),(15,.int .u8 k),(40,.bool true)]) (fun _ w'=>w'=ah) ?_ ?_
 . focus
    refine eK ?_;refine AH rfl (fun ai=>?_) (fun ai=>?_);refine As ?_;rotate_left;refine Ad (C1 V1 (C1 Pa (Ah ?_)));rotate_left
   all_goals exact BL () (Ak rfl (Ak rfl (Ak rfl (Ak rfl (AW rfl (congrArg dF (decide_eq_true Ab)) AY))))) rfl
 rintro-u1 rfl;refine CK rfl (cS (C1 Mv (C1 Pf (C1 (Pl (eH t4)) (C1 (Ay Ac rfl rfl rfl rfl Ab (by simp only [aV,aX];omega)) (B6 [_,_,_,_] Ac rfl rfl rfl E rfl rfl rfl (cC rfl (HX.out M _ _ Ag Ag Ag Ag _ Ag Ab (by (try simp)<;>omega)) ?_)))))));rintro _ a6 ⟨⟨⟩,⟨ab,⟨ac,aj⟩⟩⟩;revert t4 f E F;refine eZ aj ?_;intro a7 t4 f E F;refine cT (Ad (C1 Mv (C1 Pf (C1 (Pl (eH t4)) ?_))));refine Au (xS [_,_]) rfl ?_ aFh;rintro _ a8 ⟨a9,rfl,Y,ak⟩;have al:TB _ _ _ _:=ak;have ad:=Y.ext;have am:=Y.pos;have an:=Y.size;revert ab ac t4 f E F;refine eE ad ?_;intro ab ac t4 f E F;refine cC rfl (W2.out M _ _ _ _ Ag Ag _ Ag Ab _ _ Ag (by (try simp)<;>omega)) ?_;rintro _ ao ⟨⟨⟩,⟨ap,⟨aq,U⟩⟩⟩;have ar:=U.size;revert t4 f E F;refine eF U ?_;intro t4 f E F;refine Ah (Ae (Bn rfl ?_));all_goals exact ⟨rfl,Bld.to Ag Bd,FbX.fb Ag⟩
def JM (k:Int) (n:Int) (hk:46<=k/\k<=49) (s:lB) (x:Nd) (hx:Prints 192 dT x):PrintsD 146 fL (.mk k n s [x]):=by
 intro B b t w a c d h Y hB Z hd L;have V:(Nd.mk k n s [x]).stmtT d=CJ k++x.text:=by
  rw [Nd.stmtT.eq_def];simp only;rw [AE Ab,AE Ab,AU Ab]
 rw [V] at L ⊢;clear V;simp only [aU,aV,aX,B8] at L;simp only [dL,Am] at hd;have f:TabsF w:=⟨Y,cD hB h.le⟩;have M:FbX B b w w:=⟨h.le,h.base,fI _ _ _⟩;have ai:=h.le;have aj:=h.base;have ak:=h.lt;simp only [dM,dU,dO,dN,dW,dY] at Z ⊢;obtain ⟨kb,ko,rfl,kS,N⟩:=Ba Z Bd;obtain ⟨xa,xc,E,F⟩:=N 0 x rfl;clear N Z;have HX:=bA (fun O l w1 h1 h2 h3 h4 cs h5 h6 h7=>hx.w B b l w w1 xa xc h1 h2 h3 hB h4 O (cs:=cs) h5 h6 h7);clear hx;obtain ⟨xk,xn,xs,xl⟩:=x;simp only [dM,dU,dO,dN,dW,eR] at E HX;have W1:=bA (fun O s1 l w1 h M cs aa h1 tb tc f hl=>FZ B b O w s1 l w1 h M (cs:=cs) aa h1 tb tc f hl);refine Af func146 ntmps146 rfl rfl ?_;refine cS (DX rfl rfl rfl ?_);intro O w2 n3 t4;have x5:=n3.ext;have p6:=n3.pos;have z7:=n3.size;revert h f M E F;refine eE x5 ?_;intro h f M E F;refine cN (C1 Mv (C1 Pg (C1 (Pl (eH t4)) (cC rfl (Ii k _ Ab Ab) ?_))));rintro _ w9 ⟨⟨⟩,x8⟩;revert t4 h f M E F;refine eY x8 ?_;intro al t4 h f M E F;refine Au (xS [_]) rfl ?_ aFh;rintro _ am ⟨an,rfl,U,ab⟩;have ao:TB _ _ _ _:=ab;have ac:=U.ext;have ap:=U.pos;have aq:=U.size;revert t4 h f M E F;refine eE ac ?_;intro t4 h f M E F;refine cC rfl (W1.out O _ _ _ Ag Ag _ Ag Ab _ _ Ag (by (try simp)<;>omega)) ?_;rintro _ ad ⟨⟨⟩,⟨ar,⟨au,X⟩⟩⟩;have av:=X.size;revert t4 f E F;refine eF X ?_;intro t4 f E F;refine cN (C1 Pg (C1 (Pl (eH t4)) (cT ?_)))
 refine Ar ?_;refine Aj (cS (C1 V1 (C1 Pa (cT (C9 (cS (C1 V1 (C1 Pa (cT (C9 (cS ?_)))))))))));refine C1 V1 (C1 Pa (cT (C9 (cS (C1 V1 (C1 Pa (cT (C9 (Ad (C1 V1 (C1 Pa ?_)))))))))));refine cT (C9 (Aj (cS (C1 V1 (C1 Pa (cT (C9 (Ad (C1 V1 (C1 Pa (cT ?_)))))))))));refine C9 (Aj ?_);refine GH (ι:=Unit) (fun _=>[(0,.pointer (some ⟨b,0,none⟩)),(2,.int .i64 d),(4,.pointer (some ⟨O,0,none⟩)),(15,.int .u8 k),(54,.bool true)]) (fun _ w'=>w'=ad) ?_ ?_
 . focus
    refine eK ?_;refine AH rfl (fun ae=>?_) (fun ae=>?_);refine As ?_;rotate_left;refine eK ?_;refine AH rfl (fun af=>?_) (fun af=>?_);refine As ?_;rotate_left;refine eK ?_;refine AH rfl (fun ag=>?_) (fun ag=>?_);refine As ?_;rotate_left;refine Ad (C1 V1 (C1 Pa (Ah ?_)));rotate_left
   all_goals exact BL () (Ak rfl (Ak rfl (Ak rfl (Ak rfl (AW rfl (congrArg dF (decide_eq_true Ab)) AY))))) rfl
 rintro-u1 rfl;refine CK rfl (Ad (C1 Mv (C1 Pf (C1 (Pl (eH t4)) (C1 (Ay Ac rfl rfl rfl rfl Ab (by simp only [aV,aX];omega)) (B6 [_,_,_,_] Ac rfl rfl rfl E rfl rfl rfl (cC rfl (HX.out O _ _ Ag Ag Ag Ag _ Ag Ab (by (try simp)<;>omega)) ?_)))))));rintro _ aw ⟨⟨⟩,⟨ax,⟨ay,ah⟩⟩⟩;revert t4 f E F;refine eZ ah ?_;intro az t4 f E F;refine Ah (Ae (Bn rfl ?_));all_goals exact ⟨rfl,Bld.to Ag Bd,FbX.fb Ag⟩
def VH (n:Int) (s:lB) (x y z u:Nd) (hx:Prints 192 dT x) (hy:PrintsD 101 fB y) (hz:PrintsD 101 fB z) (hu:Prints 192 dT u):PrintsD 146 fL (.mk 52 n s [x,y,z,u]):=by
 intro B b t w a c d h Z hB f hd N;have V:(Nd.mk 52 n s [x,y,z,u]).stmtT d=CJ 52++(x.text++BB y d++[32,101,108,115,101]++BB z d++[32,102,105,32]++u.text):=by
  rw [Nd.stmtT.eq_def];simp [BB]
 rw [V] at N ⊢;clear V;simp only [aU,aV,aX,B8] at N;simp only [dL,Am] at hd;have E:TabsF w:=⟨Z,cD hB h.le⟩;have O:FbX B b w w:=⟨h.le,h.base,fI _ _ _⟩;have ae:=h.le;have af:=h.base;have ag:=h.lt;simp only [dM,dU,dO,dN,dW,dY] at f ⊢;obtain ⟨X,L⟩ : ∃X,X=[x,y,z,u]:=⟨_,rfl⟩;replace f:rowSits (· < B) w X a:=L▸f;have HB:Hid (∀M l F,Bld B b l F->TabsF F->FbX B b w F->rowSits (· < B) F X a -> ∀cs,TB F M cs 32->M≠b->l.length+(x.text++BB y d++[32,101,108,115,101]++BB z d++[32,102,105,32]++u.text).length<=140737488355328->Calls prog 194 #[.pointer (some ⟨b,0,none⟩),.agg #[.int .u8 52,.int .i64 n,str s,.slice a X.length c],.int .i64 d,str [32,101,108,115,101],str [32,102,105,32]] F (Ih B b M w (l++(x.text++BB y d++[32,101,108,115,101]++BB z d++[32,102,105,32]++u.text)) F)):=bA fun M l F h1 h2 h3 h4 cs h5 h6 h7=>by
  subst L;exact (Mm 52 n s x y z u hx hy hz hu [32,101,108,115,101] [32,102,105,32] B b l F a c d h1 h2 hB h4 (by simp only [Am];omega) h7).mono fun _ _ ⟨k1,k2,k3⟩=>⟨k1,k2,h3.step k3 h5 h6⟩
 rw [<-L];clear hx hy hz hu L;have W1:=bA (fun M s1 l F h O cs aa h1 tb tc E hl=>FZ B b M w s1 l F h O (cs:=cs) aa h1 tb tc E hl);refine Af func146 ntmps146 rfl rfl ?_;refine cS (DX rfl rfl rfl ?_);intro M w2 n3 t4;have x5:=n3.ext;have p6:=n3.pos;have z7:=n3.size;revert h E O f;refine eE x5 ?_;intro h E O f;refine cN (C1 Mv (C1 Pg (C1 (Pl (eH t4)) (cC rfl (Ii 52 _ Ab Ab) ?_))));rintro _ w9 ⟨⟨⟩,x8⟩;revert t4 h E O f;refine eY x8 ?_;intro ah t4 h E O f;refine Au (xS [_]) rfl ?_ aFh;rintro _ ai ⟨aj,rfl,U,ab⟩;have ak:TB _ _ _ _:=ab;have ac:=U.ext;have al:=U.pos;have am:=U.size;revert t4 h E O f;refine eE ac ?_;intro t4 h E O f;refine cC rfl (W1.out M _ _ _ Ag Ag _ Ag Ab _ _ Ag (by (try simp)<;>omega)) ?_;rintro _ an ⟨⟨⟩,⟨ao,⟨ap,Y⟩⟩⟩;have aq:=Y.size;revert t4 E f;refine eF Y ?_;intro t4 E f;refine cN (C1 Pg (C1 (Pl (eH t4)) ?_));refine eK ?_;refine Bm [_,_,_,_] Ac rfl rfl rfl (eH t4) rfl rfl rfl (C1 Mv (cC rfl (HB.out M _ _ Ag Ag Ag Ag _ Ag Ab (by (try simp)<;>omega)) ?_));rintro _ ar ⟨⟨⟩,⟨au,⟨av,ad⟩⟩⟩;revert t4 E f;refine eZ ad ?_;intro aw t4 E f;refine Ah (Ae (Bn rfl ?_));all_goals exact ⟨rfl,Bld.to Ag Bd,FbX.fb Ag⟩
def VI (n:Int) (s:lB) (x y z u:Nd) (hx:Prints 192 dT x) (hy:PrintsD 101 fB y) (hz:PrintsD 101 fB z) (hu:Prints 192 dT u):PrintsD 146 fL (.mk 53 n s [x,y,z,u]):=by
 intro B b t w a c d h Z hB f hd N;have V:(Nd.mk 53 n s [x,y,z,u]).stmtT d=CJ 53++(x.text++BB y d++[32,108,111,111,112]++BB z d++[32,117,110,116,105,108,32]++u.text):=by
  rw [Nd.stmtT.eq_def];simp [BB]
 rw [V] at N ⊢;clear V;simp only [aU,aV,aX,B8] at N;simp only [dL,Am] at hd;have E:TabsF w:=⟨Z,cD hB h.le⟩;have O:FbX B b w w:=⟨h.le,h.base,fI _ _ _⟩;have ae:=h.le;have af:=h.base;have ag:=h.lt;simp only [dM,dU,dO,dN,dW,dY] at f ⊢;obtain ⟨X,L⟩ : ∃X,X=[x,y,z,u]:=⟨_,rfl⟩;replace f:rowSits (· < B) w X a:=L▸f;have HB:Hid (∀M l F,Bld B b l F->TabsF F->FbX B b w F->rowSits (· < B) F X a -> ∀cs,TB F M cs 32->M≠b->l.length+(x.text++BB y d++[32,108,111,111,112]++BB z d++[32,117,110,116,105,108,32]++u.text).length<=140737488355328->Calls prog 194 #[.pointer (some ⟨b,0,none⟩),.agg #[.int .u8 53,.int .i64 n,str s,.slice a X.length c],.int .i64 d,str [32,108,111,111,112],str [32,117,110,116,105,108,32]] F (Ih B b M w (l++(x.text++BB y d++[32,108,111,111,112]++BB z d++[32,117,110,116,105,108,32]++u.text)) F)):=bA fun M l F h1 h2 h3 h4 cs h5 h6 h7=>by
  subst L;exact (Mm 53 n s x y z u hx hy hz hu [32,108,111,111,112] [32,117,110,116,105,108,32] B b l F a c d h1 h2 hB h4 (by simp only [Am];omega) h7).mono fun _ _ ⟨k1,k2,k3⟩=>⟨k1,k2,h3.step k3 h5 h6⟩
 rw [<-L];clear hx hy hz hu L;have W1:=bA (fun M s1 l F h O cs aa h1 tb tc E hl=>FZ B b M w s1 l F h O (cs:=cs) aa h1 tb tc E hl);refine Af func146 ntmps146 rfl rfl ?_;refine cS (DX rfl rfl rfl ?_);intro M w2 n3 t4;have x5:=n3.ext;have p6:=n3.pos;have z7:=n3.size;revert h E O f;refine eE x5 ?_;intro h E O f;refine cN (C1 Mv (C1 Pg (C1 (Pl (eH t4)) (cC rfl (Ii 53 _ Ab Ab) ?_))));rintro _ w9 ⟨⟨⟩,x8⟩;revert t4 h E O f;refine eY x8 ?_;intro ah t4 h E O f;refine Au (xS [_]) rfl ?_ aFh;rintro _ ai ⟨aj,rfl,U,ab⟩;have ak:TB _ _ _ _:=ab;have ac:=U.ext;have al:=U.pos;have am:=U.size;revert t4 h E O f;refine eE ac ?_;intro t4 h E O f;refine cC rfl (W1.out M _ _ _ Ag Ag _ Ag Ab _ _ Ag (by (try simp)<;>omega)) ?_;rintro _ an ⟨⟨⟩,⟨ao,⟨ap,Y⟩⟩⟩;have aq:=Y.size;revert t4 E f;refine eF Y ?_;intro t4 E f;refine cN (C1 Pg (C1 (Pl (eH t4)) ?_));refine eK ?_;refine Bm [_,_,_,_] Ac rfl rfl rfl (eH t4) rfl rfl rfl (C1 Mv (cC rfl (HB.out M _ _ Ag Ag Ag Ag _ Ag Ab (by (try simp)<;>omega)) ?_));rintro _ ar ⟨⟨⟩,⟨au,⟨av,ad⟩⟩⟩;revert t4 E f;refine eZ ad ?_;intro aw t4 E f;refine Ah (Ae (Bn rfl ?_));all_goals exact ⟨rfl,Bld.to Ag Bd,FbX.fb Ag⟩
def VJ (n:Int) (s:lB) (x y z:Nd) (hx:Prints 192 dT x) (hy:PrintsD 101 fB y) (hz:Prints 192 dT z):PrintsD 146 fL (.mk 54 n s [x,y,z]):=by
 intro B b t w a c d h am hB hs hd Y;have ad:(Nd.mk 54 n s [x,y,z]).stmtT d=CJ 54++(s++([32,61,32]++(x.text++(BB y d++([32,100,101,108,111,99,97,108,32]++z.text))))):=by
  rw [Nd.stmtT.eq_def];simp [BB]
 rw [ad] at Y ⊢;clear ad;simp only [aU,aV,aX,B8] at Y;simp only [dL,Am] at hd;have f:TabsF w:=⟨am,cD hB h.le⟩;have V:FbX B b w w:=⟨h.le,h.base,fI _ _ _⟩;have ax:=h.le;have ay:=h.base;have az:=h.lt;simp only [dM,dU,dO,dN,dW,dY] at hs ⊢;obtain ⟨kb,ko,rfl,kS,U⟩:=Ba hs Bd;obtain ⟨xa,xc,E,M⟩:=U 0 x rfl;obtain ⟨ya,yc,L,N⟩:=U 1 y rfl;obtain ⟨za,zc,F,sz⟩:=U 2 z rfl;clear U hs;have HX:=bA (fun O l X h1 h2 h3 h4 cs h5 h6 h7=>hx.w B b l w X xa xc h1 h2 h3 hB h4 O (cs:=cs) h5 h6 h7);have HY:=bA (fun O l X h1 h2 h3 h4 cs h5 h6 h7=>JL y hy B b O w l X ya yc d h1 h2 h3 hB h4 Ab (cs:=cs) h5 h6 h7);have HZ:=bA (fun O l X h1 h2 h3 h4 cs h5 h6 h7=>hz.w B b l w X za zc h1 h2 h3 hB h4 O (cs:=cs) h5 h6 h7);clear hx hy hz;obtain ⟨xk,xn,xs,xl⟩:=x;obtain ⟨yk,yn,ys,yl⟩:=y;obtain ⟨zk,zn,zs,zl⟩:=z;simp only [dM,dU,dO,dN,dW,eR] at E L F HX HY HZ;have W1:=bA (fun O s1 l X h V cs Z h1 tb tc f hl=>FZ B b O w s1 l X h V (cs:=cs) Z h1 tb tc f hl);have W2:=bA (fun O s1 s2 l X h V cs Z h1 tb tc f hl=>RA B b O w s1 s2 l X h V (cs:=cs) Z h1 tb tc f hl);refine Af func146 ntmps146 rfl rfl ?_;refine cS (DX rfl rfl rfl ?_);intro O w2 n3 t4;have x5:=n3.ext;have p6:=n3.pos;have z7:=n3.size;revert h f V E M L N F sz;refine eE x5 ?_;intro h f V E M L N F sz;refine cN (C1 Mv (C1 Pg (C1 (Pl (eH t4)) (cC rfl (Ii 54 _ Ab Ab) ?_))));rintro _ w9 ⟨⟨⟩,x8⟩;revert t4 h f V E M L N F sz;refine eY x8 ?_;intro a0 t4 h f V E M L N F sz;refine Au (xS [_]) rfl ?_ aFh;rintro _ a1 ⟨a2,rfl,aa,an⟩;have a3:TB _ _ _ _:=an;have ao:=aa.ext;have a4:=aa.pos;have a5:=aa.size;revert t4 h f V E M L N F sz;refine eE ao ?_;intro t4 h f V E M L N F sz;refine cC rfl (W1.out O _ _ _ Ag Ag _ Ag Ab _ _ Ag (by (try simp)<;>omega)) ?_;rintro _ a6 ⟨⟨⟩,⟨ae,⟨af,ag⟩⟩⟩;have a7:=ag.size;revert t4 f E M L N F sz;refine eF ag ?_;intro t4 f E M L N F sz;refine cN (C1 Pg (C1 (Pl (eH t4)) (cT (Ar (Aj (cS (C1 V1 (C1 Pa (cT (Hj (cS ?_)))))))))));refine C1 V1 (C1 Pa (cT (Hj (cS (C1 V1 (C1 Pa (cT (Hj (cS (C1 V1 (C1 Pa ?_)))))))))));refine cT (Hj (Ad (C1 V1 (C1 Pa (cT (Hj (Aj (cS (C1 V1 (C1 Pa (cT ?_)))))))))));refine Hj (Ad (C1 V1 (C1 Pa (cT (Hj (Aj (cS (C1 V1 (C1 Pa (cT (Hj ?_)))))))))))
 refine cS (C1 V1 (C1 Pa (cT (Hj (cS (C1 V1 (C1 Pa (cT (Hj (Ad (C1 V1 ?_)))))))))));refine C1 Pa (cT (Hj (Aj (cS (C1 V1 (C1 Pa (cT (Hj (Ad (C1 V1 (C1 Pa ?_)))))))))));refine cT (Hj (cS (C1 V1 (C1 Pa (cT (Hj (cS (C1 V1 (C1 Pa (cT (Hj ?_)))))))))));refine cS (C1 V1 (C1 Pa (cT (ZU (cS (C1 Mv (C1 Pf (C1 (Pl (eH t4)) ?_))))))));refine Au (xS [_,_]) rfl ?_ aFh;rintro _ a8 ⟨a9,rfl,ab,ap⟩;have ba:TB _ _ _ _:=ap;have aq:=ab.ext;have bb:=ab.pos;have z31:=ab.size;revert ae af t4 f E M L N F sz;refine eE aq ?_;intro ae af t4 f E M L N F sz;refine cC rfl (W2.out O _ _ _ _ Ag Ag _ Ag Ab _ _ Ag (by (try simp)<;>omega)) ?_;rintro _ bc ⟨⟨⟩,⟨bd,⟨be,ah⟩⟩⟩;have bf:=ah.size;revert t4 f E M L N F sz;refine eF ah ?_;intro t4 f E M L N F sz;refine cN (C1 Mv (C1 Pf (C1 (Pl (eH t4)) (C1 (Ay Ac rfl rfl rfl rfl Ab (by simp only [aV,aX];omega)) (B6 [_,_,_,_] Ac rfl rfl rfl E rfl rfl rfl (cC rfl (HX.out O _ _ Ag Ag Ag Ag _ Ag Ab (by (try simp)<;>omega)) ?_))))));rintro _ bg ⟨⟨⟩,⟨bh,⟨bi,ai⟩⟩⟩;have bj:=ai.size;revert t4 f E M L N F sz;refine eF ai ?_;intro t4 f E M L N F sz;refine cN (C1 Mv (C1 Pf (C1 (Pl (eH t4)) (C1 (Ay Ac rfl rfl rfl rfl Ab (by simp only [aV,aX];omega)) ?_))));refine eK ?_;refine cC rfl (HY.out O _ _ Ag Ag Ag Ag _ Ag Ab (by (try simp)<;>omega)) ?_;rintro _ bk ⟨⟨⟩,⟨aj,⟨ak,ar⟩⟩⟩;revert t4 f E M L N F sz;refine eZ ar ?_;intro z46 t4 f E M L N F sz;refine eK ?_;refine Au (xS [_]) rfl ?_ aFh;rintro _ bl ⟨bm,rfl,ac,au⟩;have t51:TB _ _ _ _:=au;have av:=ac.ext;have bn:=ac.pos;have bo:=ac.size;revert aj ak t4 f E M L N F sz;refine eE av ?_;intro aj ak t4 f E M L N F sz;refine cC rfl (W1.out O _ _ _ Ag Ag _ Ag Ab _ _ Ag (by (try simp)<;>omega)) ?_;rintro _ bp ⟨⟨⟩,⟨bq,⟨br,al⟩⟩⟩;have z59:=al.size;revert t4 f E M L N F sz;refine eF al ?_;intro t4 f E M L N F sz;refine cT (Ad (C1 Mv (C1 Pf (C1 (Pl (eH t4)) (C1 (Ay Ac rfl rfl rfl rfl Ab (by simp only [aV,aX];omega)) (C1 (Uz F) (cC rfl (HZ.out O _ _ Ag Ag Ag Ag _ Ag Ab (by (try simp)<;>omega)) ?_)))))))
 rintro _ bs ⟨⟨⟩,⟨bt,⟨bu,aw⟩⟩⟩;revert t4 f E M L N F sz;refine eZ aw ?_;intro bv t4 f E M L N F sz;refine Ah (Ae (Bn rfl ?_));all_goals exact ⟨rfl,Bld.to Ag Bd,FbX.fb Ag⟩
def VK (n:Int) (s:lB) (x:Nd) (hx:PrintsD 101 fB x):PrintsD 146 fL (.mk 55 n s [x]):=by
 intro B b t w a c d h ac hB hs hd L;have X:(Nd.mk 55 n s [x]).stmtT d=CJ 55++(s++BB x d):=by
  rw [Nd.stmtT.eq_def];simp [BB]
 rw [X] at L ⊢;clear X;simp only [aU,aV,aX,B8] at L;simp only [dL,Am] at hd;have f:TabsF w:=⟨ac,cD hB h.le⟩;have M:FbX B b w w:=⟨h.le,h.base,fI _ _ _⟩;have aj:=h.le;have ak:=h.base;have al:=h.lt;simp only [dM,dU,dO,dN,dW,dY] at hs ⊢;obtain ⟨kb,ko,rfl,kS,N⟩:=Ba hs Bd;obtain ⟨xa,xc,E,F⟩:=N 0 x rfl;clear N hs;have HX:=bA (fun O l w1 h1 h2 h3 h4 cs h5 h6 h7=>JL x hx B b O w l w1 xa xc d h1 h2 h3 hB h4 Ab (cs:=cs) h5 h6 h7);clear hx;obtain ⟨xk,xn,xs,xl⟩:=x;simp only [dM,dU,dO,dN,dW,eR] at E HX;have W1:=bA (fun O s1 l w1 h M cs ad h1 tb tc f hl=>FZ B b O w s1 l w1 h M (cs:=cs) ad h1 tb tc f hl);refine Af func146 ntmps146 rfl rfl ?_;refine cS (DX rfl rfl rfl ?_);intro O w2 n3 t4;have x5:=n3.ext;have p6:=n3.pos;have z7:=n3.size;revert h f M E F;refine eE x5 ?_;intro h f M E F;refine cN (C1 Mv (C1 Pg (C1 (Pl (eH t4)) (cC rfl (Ii 55 _ Ab Ab) ?_))));rintro _ w9 ⟨⟨⟩,x8⟩;revert t4 h f M E F;refine eY x8 ?_;intro am t4 h f M E F;refine Au (xS [_]) rfl ?_ aFh;rintro _ an ⟨ao,rfl,U,ae⟩;have ap:TB _ _ _ _:=ae;have af:=U.ext;have aq:=U.pos;have ar:=U.size;revert t4 h f M E F;refine eE af ?_;intro t4 h f M E F;refine cC rfl (W1.out O _ _ _ Ag Ag _ Ag Ab _ _ Ag (by (try simp)<;>omega)) ?_;rintro _ au ⟨⟨⟩,⟨Y,⟨Z,aa⟩⟩⟩;have av:=aa.size;revert t4 f E F;refine eF aa ?_;intro t4 f E F;refine cN (C1 Pg (C1 (Pl (eH t4)) (cT (Ar (Aj (cS (C1 V1 (C1 Pa (cT (Hj (cS ?_)))))))))));refine C1 V1 (C1 Pa (cT (Hj (cS (C1 V1 (C1 Pa (cT (Hj (cS (C1 V1 (C1 Pa ?_)))))))))));refine cT (Hj (Ad (C1 V1 (C1 Pa (cT (Hj (Aj (cS (C1 V1 (C1 Pa (cT ?_)))))))))));refine Hj (Ad (C1 V1 (C1 Pa (cT (Hj (Aj (cS (C1 V1 (C1 Pa (cT (Hj ?_)))))))))));refine cS (C1 V1 (C1 Pa (cT (Hj (cS (C1 V1 (C1 Pa (cT (Hj (Ad (C1 V1 ?_)))))))))));refine C1 Pa (cT (Hj (Aj (cS (C1 V1 (C1 Pa (cT (Hj (Ad (C1 V1 (C1 Pa ?_)))))))))))
 refine cT (Hj (cS (C1 V1 (C1 Pa (cT (Hj (cS (C1 V1 (C1 Pa (cT (Hj ?_)))))))))));refine cS (C1 V1 (C1 Pa (cT (Hj (cS (C1 V1 (C1 Pa (cT (ZU (cS (C1 Mv ?_)))))))))));refine C1 Pf (C1 (Pl (eH t4)) ?_);refine Au (xS [_]) rfl ?_ aFh;rintro _ aw ⟨ax,rfl,V,ag⟩;have ay:TB _ _ _ _:=ag;have ah:=V.ext;have az:=V.pos;have z31:=V.size;revert Y Z t4 f E F;refine eE ah ?_;intro Y Z t4 f E F;refine cC rfl (W1.out O _ _ _ Ag Ag _ Ag Ab _ _ Ag (by (try simp)<;>omega)) ?_;rintro _ a0 ⟨⟨⟩,⟨a1,⟨a2,ab⟩⟩⟩;have a3:=ab.size;revert t4 f E F;refine eF ab ?_;intro t4 f E F;refine cT (Ad (C1 Mv (C1 Pf (C1 (Pl (eH t4)) (C1 (Ay Ac rfl rfl rfl rfl Ab (by simp only [aV,aX];omega)) (B6 [_,_,_,_] Ac rfl rfl rfl E rfl rfl rfl (C1 Mv (cC rfl (HX.out O _ _ Ag Ag Ag Ag _ Ag Ab (by (try simp)<;>omega)) ?_))))))));rintro _ a4 ⟨⟨⟩,⟨a5,⟨a6,ai⟩⟩⟩;revert t4 f E F;refine eZ ai ?_;intro a7 t4 f E F;refine Ah (Ae (Bn rfl ?_));all_goals exact ⟨rfl,Bld.to Ag Bd,FbX.fb Ag⟩
def JN (q:Bool) (l r:List Nd):C7 q (l++r)=C7 q l++C7 (q&&l.isEmpty) r:=by
 induction l generalizing q with
 | nil=>simp [C7]
 | cons x l f=>simp [C7,f]
def Mn (l:List Nd) (j:Nat) (h:j<l.length):C7 true (l.take (j+1))=C7 true (l.take j)++((if j=0 then [] else [44,32])++l[j].text):=by
 rw [bE h,JN];rcases j with _|j
 . simp [C7]
 . have:(l.take (j+1)).isEmpty=false:=by
    rw [List.isEmpty_eq_false_iff];intro e;have h1:(l.take (j+1)).length=j+1:=by simp;omega
    rw [e] at h1;simp at h1
   rw [this];simp [C7]
def Qq (l:List Nd) (j:Nat):(C7 true (l.take j)).length<=(C7 true l).length:=by
 have e:=JN true (l.take j) (l.drop j);rw [cL] at e;rw [e];simp
def Hk (l r:List Nd) (d:Nat):BV (l++r) d=BV l d++BV r d:=by
 induction l with
 | nil=>simp [BV]
 | cons x l f=>simp [BV,f]
def IS (l:List Nd) (j d:Nat) (h:j<l.length):BV (l.take (j+1)) d=BV (l.take j) d++(BX d++l[j].stmtT d++[59,10]):=by
 rw [bE h,Hk];simp [BV]
def Ij (l:List Nd) (j d:Nat):(BV (l.take j) d).length<=(BV l d).length:=by
 have e:=Hk (l.take j) (l.drop j) d;rw [cL] at e;rw [e];simp
def Xq (k n:Int) (s:lB) (l:List Nd) (a4:l.length<=9223372036854775807) (hx : ∀x∈l,PrintsD 146 fL x):PrintsD 101 fB (.mk k n s l):=by
 intro B b t w a c d h aj hB E hd Y;have ac:(Nd.mk k n s l).linesT d=BV l d:=by simp [fB]
 rw [ac] at Y ⊢;clear ac;rw [aU] at Y;have F:TabsF w:=⟨aj,cD hB h.le⟩;have V:FbX B b w w:=⟨h.le,h.base,fI _ _ _⟩;have a5:=h.le;have a6:=h.base;have a7:=h.lt;simp only [dM,dU,dO,dN,dW,dY,dL] at E hd ⊢;have HX:=bA hx;clear hx;refine Af func101 ntmps101 rfl rfl ?_;refine cS (DX rfl rfl rfl ?_);intro b1 w2 n3 t4;have x5:=n3.ext;have p6:=n3.pos;have z7:=n3.size;revert h E F V;refine eE x5 ?_;intro h E F V;refine cN (C1 Pf (C1 (Pl (eH t4)) (C1 Pz (C1 Mv (cT ?_)))));refine Ar ?_;refine AJ (ι:=Nat) (fun j=>[(0,.pointer (some ⟨b,0,none⟩)),(2,.int .i64 d),(9,.slice a l.length c),(10,.int .i64 l.length),(11,.int .i64 j)])
  (fun j w'=>j<=l.length/\Bld B b (t++BV (l.take j) d) w'/\TabsF w'/\FbX B b w w'/\rowSits (· < B) w' l a) (fun j=>l.length-j) 0 sB ⟨bI _,by simpa [BV] using h,F,V,E⟩ ?_
 clear h F V E;rintro j w1 ⟨hj,h,F,V,E⟩;have an:=h.lt;by_cases L:j<l.length
 . obtain ⟨kb,ko,rfl,kS,hk⟩:=Ba E (by intro e;rw [e] at L;simp at L);obtain ⟨xa,xc,M,X⟩:=hk j _ (aY L);have N:=bD L;have ak:=Dz N;have ad:=IS l j d L;have ae:=Ij l (j+1) d;rw [ad] at ae;simp only [aU,aV,aX] at ae;have a8:=Dh d;have hP:=HX.out _ N;clear hk HX N;generalize l[j]=x at *;generalize BV (l.take j) d=lt at *;have HS:=bA (fun b1 t w1 h1 h2 h3 h4 cs h5 h6 h7=>hP.w B b t w w1 xa xc d h1 h2 h3 hB h4 Ab b1 (cs:=cs) h5 h6 h7);have HT:=bA (fun b1 l w1 h1 h2 cs h3 h4 h5=>VG B b b1 w l d w1 h1 h2 (cs:=cs) h3 h4 Ab h5);have W1:=bA (fun b1 s1 l w1 h V cs al h1 tb tc F hl=>FZ B b b1 w s1 l w1 h V (cs:=cs) al h1 tb tc F hl);clear hP ak hd;obtain ⟨xk,xn,xs,xl⟩:=x;simp only [dM,dU,dO,dN,dW,eR] at M HS;refine eK ?_;refine Ep CM rfl rfl ?_;intro a9 ba O f;refine Gk Ac rfl rfl rfl rfl rfl rfl O f rfl ?_;intro bb O f;have am:=O.ext;have bc:=O.pos;have bd:=O.size;revert F V E h M X;refine eE am ?_;intro F V E h M X;refine eK ?_;refine cC rfl (HT.out _ _ _ Ag Ag _ Ag Ab (by (try simp)<;>omega)) ?_;rintro _ ao ⟨⟨⟩,⟨be,⟨ap,af⟩⟩⟩;revert f F E M X;refine eZ af ?_;intro aq f F E M X;refine eK ?_;refine Bm [_,_,_,_] Ac rfl rfl rfl (eH f) rfl rfl rfl (C1 Mv (cC rfl (HS.out _ _ _ Ag Ag Ag Ag _ Ag Ab (by (try simp)<;>omega)) ?_));rintro _ ar ⟨⟨⟩,⟨Z,⟨aa,ag⟩⟩⟩;revert f F E M X;refine eZ ag ?_;intro au f F E M X;refine eK ?_;refine Au (xS [_]) rfl ?_ aFh;rintro _ av ⟨aw,rfl,U,ah⟩;have ax:TB _ _ _ _:=ah;have ai:=U.ext;have ay:=U.pos;have az:=U.size;revert Z aa f F E M X;refine eE ai ?_;intro Z aa f F E M X;refine cC rfl (W1.out _ _ _ _ Ag Ag _ Ag Ab _ _ Ag (by (try simp)<;>omega)) ?_
   rintro _ a0 ⟨⟨⟩,⟨a1,⟨a2,ab⟩⟩⟩;have a3:=ab.size;revert f F E M X;refine eF ab ?_;intro f F E M X;refine Ah (Ae (Ai (Ad (C1 V7 (C1 Mv (Ah ?_))))));exact Aw (j+1) sB ⟨Ab,Bld.to Ag (by rw [ad];simp),Ag,Ag,E⟩ Ab
 . obtain rfl:j=l.length:=by omega
   rw [bH] at h;refine cS (C1 V3 (cT (Aj (C9 (CB (AG (AG (A8 (Bn rfl ?_)))))))));exact ⟨rfl,h,V.fb⟩
def Xr (B b:Nat) (u:wD) (E:lB) (l:lB) (w:wD) (h:Bld B b l w) (F:FbX B b u w) (L M:Nat) (N:TB w L [str E] 9) (f:l.length+E.length<=140737488355328) :
 Calls prog 58 #[.pointer (some ⟨b,0,none⟩),.slice (some ⟨L,0,none⟩) 1 M] w fun e w'=>e = .returned (.tuple #[])/\Bld B b (l++E) w'/\FbX B b u w'/\Fr (fun k=>B<=k) w w':=by
 have:=Cj B b L M l [E] w h ⟨N⟩ Bd (by simpa using f);refine this.mono fun _ _ ⟨O,k2,k3⟩=>⟨O,by simpa using k2,⟨F.le,F.base,F.fb.trans k3⟩,k3.below.os,k3.below.tape,k3.below.output,k3.below.size,fun k _ U=>k3.below.block k Ab⟩
def Mo (k n:Int) (hk:k=50\/k=51) (s:lB) (l:List Nd) (bu:l.length<=9223372036854775807) (hx : ∀x∈l,Prints 192 dT x):PrintsD 146 fL (.mk k n s l):=by
 intro B b t w a c d h az hB E hd ab;have an:(Nd.mk k n s l).stmtT d=CJ k++(s++([40]++(C7 true l++[41]))):=by
  rw [Nd.stmtT.eq_def];rcases hk with rfl|rfl<;>simp [CJ]
 rw [an] at ab ⊢;clear an;simp only [aU,aV,aX] at ab;have f:TabsF w:=⟨az,cD hB h.le⟩;have F:FbX B b w w:=⟨h.le,h.base,fI _ _ _⟩;have bv:=h.le;have bw:=h.base;have bx:=h.lt;simp only [dM,dU,dO,dN,dW,dY] at E ⊢;have HX:=bA hx;clear hx hd;have W1:=bA (fun b1 s1 l w1 h F cs ah h1 tb tc f hl=>FZ B b b1 w s1 l w1 h F (cs:=cs) ah h1 tb tc f hl);have W2:=bA (fun b1 s1 s2 l w1 h F cs ah h1 tb tc f hl=>RA B b b1 w s1 s2 l w1 h F (cs:=cs) ah h1 tb tc f hl);refine Af func146 ntmps146 rfl rfl ?_;refine cS (DX rfl rfl rfl ?_);intro b1 w2 n3 t4;have x5:=n3.ext;have p6:=n3.pos;have z7:=n3.size;revert h E f F;refine eE x5 ?_;intro h E f F;refine cN (C1 Mv (C1 Pg (C1 (Pl (eH t4)) (cC rfl (Ii k _ Ab Ab) ?_))));rintro _ w9 ⟨⟨⟩,x8⟩;revert t4 h E f F;refine eY x8 ?_;intro bz t4 h E f F;refine Au (xS [_]) rfl ?_ aFh;rintro _ b0 ⟨b2,rfl,ai,a0⟩;have b3:TB _ _ _ _:=a0;have a1:=ai.ext;have b4:=ai.pos;have b5:=ai.size;revert t4 h E f F;refine eE a1 ?_;intro t4 h E f F;refine cC rfl (W1.out b1 _ _ _ Ag Ag _ Ag Ab _ _ Ag (by (try simp)<;>omega)) ?_;rintro _ a2 ⟨⟨⟩,⟨aj,⟨ak,ao⟩⟩⟩;have b6:=ao.size;revert t4 E f;refine eF ao ?_;intro t4 E f;refine cN (C1 Pg (C1 (Pl (eH t4)) (cT ?_)));refine Ar ?_
 refine Aj (cS (C1 V1 (C1 Pa (cT (C9 (cS (C1 V1 (C1 Pa (cT (C9 (cS ?_)))))))))));refine C1 V1 (C1 Pa (cT (C9 (cS (C1 V1 (C1 Pa (cT (C9 (Ad (C1 V1 (C1 Pa ?_)))))))))));refine cT (C9 (Aj (cS (C1 V1 (C1 Pa (cT (C9 (Ad (C1 V1 (C1 Pa (cT ?_)))))))))));refine C9 (Aj (cS (C1 V1 (C1 Pa (cT (C9 (cS (C1 V1 (C1 Pa (cT (C9 ?_)))))))))));refine cS (C1 V1 (C1 Pa (cT (C9 (Ad (C1 V1 (C1 Pa (cT (C9 (Aj ?_))))))))));refine GH (ι:=Unit) (fun _=>[(0,.pointer (some ⟨b,0,none⟩)),(2,.int .i64 d),(4,.pointer (some ⟨b1,0,none⟩)),(15,.int .u8 k),(65,.bool true)]) (fun _ w'=>w'=a2) ?_ ?_
 . focus
    refine eK ?_;refine AH rfl (fun a3=>?_) (fun a3=>?_);refine As ?_;rotate_left;refine Ad (C1 V1 (C1 Pa (Ah ?_)));rotate_left
   all_goals exact BL () (Ak rfl (Ak rfl (Ak rfl (Ak rfl (AW rfl (congrArg dF (decide_eq_true Ab)) AY))))) rfl
 rintro-u1 rfl;refine CK rfl (cS (C1 Mv (C1 Pf (C1 (Pl (eH t4)) ?_))));refine Au (xS [_,_]) rfl ?_ aFh;rintro _ b7 ⟨b8,rfl,al,a4⟩;have b9:TB _ _ _ _:=a4;have a5:=al.ext;have ca:=al.pos;have cb:=al.size;revert aj ak t4 E f;refine eE a5 ?_;intro aj ak t4 E f;refine cC rfl (W2.out b1 _ _ _ _ Ag Ag _ Ag Ab _ _ Ag (by (try simp)<;>omega)) ?_;rintro _ ap ⟨⟨⟩,⟨aq,⟨ac,ad⟩⟩⟩;have ba:=ad.size;revert t4 E f;refine eF ad ?_;intro t4 E f;refine cT (Aj (cS (C1 Pf (C1 (Pl (eH t4)) (C1 Pz (C1 Mv (cT ?_)))))));refine Ar ?_;have ar:Bld B b (t++CJ k++(s++[40])++C7 true (l.take 0)) ap:=Bld.to aq (by simp [C7]);have M:=Qq l;have W0:=bA (fun s1 l w1 h F tb tc f hl=>Xr B b w s1 l w1 h F tb tc f hl);refine AJ (ι:=Nat) (fun j=>[(0,.pointer (some ⟨b,0,none⟩)),(74,.slice a l.length c),(75,.int .i64 l.length),(76,.int .i64 j)])
  (fun j w'=>j<=l.length/\Bld B b (t++CJ k++(s++[40])++C7 true (l.take j)) w'/\TabsF w'/\FbX B b w w'/\rowSits (· < B) w' l a) (fun j=>l.length-j) 0 sB ⟨bI _,ar,f,ac,E⟩ ?_
 clear ar aq ac aj ak t4 f E h F W2;rintro j w1 ⟨hj,h,f,F,E⟩;have bb:=h.lt;by_cases U:j<l.length
 . obtain ⟨kb,ko,rfl,kS,ae⟩:=Ba E (by intro e;rw [e] at U;simp at U);obtain ⟨xa,xc,N,O⟩:=ae j _ (aY U);have hP:=HX.out _ (bD U);have V:=Mn l j U;have X:=M (j+1);rw [V] at X;clear ae HX M W0;generalize l[j]=x at *;generalize C7 true (l.take j)=pre at *;have HS:=bA (fun b1 t w1 h1 h2 h3 h4 cs h5 h6 h7=>hP.w B b t w w1 xa xc h1 h2 h3 hB h4 b1 (cs:=cs) h5 h6 h7);clear hP;by_cases au:j=0
   . rw [AU au] at V X;simp only [aU,aV,aX] at X;obtain ⟨xk,xn,xs,xl⟩:=x;simp only [dM,dU,dO,dN,dW,eR] at N HS;refine eK ?_;refine Ep CM rfl rfl ?_;intro cc cd nd3 Y;refine A0 (ES rfl) rfl (Gk Ac rfl rfl rfl rfl rfl rfl nd3 Y rfl ?_);intro ce nd3 Y;have a6:=nd3.ext;have cf:=nd3.pos;have cg:=nd3.size;revert f F E h N O;refine eE a6 ?_;intro f F E h N O;refine eK ?_;refine Bm [_,_,_,_] Ac rfl rfl rfl (eH Y) rfl rfl rfl (cC rfl (HS.out _ _ _ Ag Ag Ag Ag _ Ag Ab (by (try simp)<;>omega)) ?_);rintro _ bc ⟨⟨⟩,⟨ch,⟨bd,av⟩⟩⟩;revert Y f E N O;refine eZ av ?_;intro be Y f E N O;refine Ah (Ae (Ai (Ad (C1 V7 (C1 Mv (Ah ?_))))));exact Aw (j+1) sB ⟨Ab,Bld.to Ag (by rw [V];simp),Ag,Ag,E⟩ Ab
   . rw [AE au] at V X;simp only [aU,aV,aX] at X;obtain ⟨xk,xn,xs,xl⟩:=x;simp only [dM,dU,dO,dN,dW,eR] at N HS;refine eK ?_;refine Ep CM rfl rfl ?_;intro ci cj Z L;refine A0 (ES rfl) rfl (Gk Ac rfl rfl rfl rfl rfl rfl Z L rfl ?_);intro ck Z L;have a7:=Z.ext;have cl:=Z.pos;have cm:=Z.size;revert f F E h N O;refine eE a7 ?_;intro f F E h N O;refine eK ?_;refine Au (xS [_]) rfl ?_ aFh;rintro _ bf ⟨cn,rfl,aa,aw⟩;have bg:TB _ _ _ _:=aw;have ax:=aa.ext;have bh:=aa.pos;have bi:=aa.size;revert L f F E h N O;refine eE ax ?_;intro L f F E h N O;refine cC rfl (W1.out _ _ _ _ Ag Ag _ Ag Ab _ _ Ag (by (try simp)<;>omega)) ?_;rintro _ bj ⟨⟨⟩,⟨bk,⟨bl,af⟩⟩⟩;have bm:=af.size;revert L f E N O;refine eF af ?_;intro L f E N O;refine eK ?_;refine Bm [_,_,_,_] Ac rfl rfl rfl (eH L) rfl rfl rfl (cC rfl (HS.out _ _ _ Ag Ag Ag Ag _ Ag Ab (by (try simp)<;>omega)) ?_);rintro _ bn ⟨⟨⟩,⟨bo,⟨bp,ay⟩⟩⟩;revert L f E N O;refine eZ ay ?_;intro bq L f E N O;refine Ah (Ae (Ai (Ad (C1 V7 (C1 Mv (Ah ?_))))));exact Aw (j+1) sB ⟨Ab,Bld.to Ag (by rw [V];simp),Ag,Ag,E⟩ Ab
 . obtain rfl:j=l.length:=by omega
   rw [bH] at h;clear HX M W1 E;refine eK ?_;refine Au (xS [_]) rfl ?_ aFh;rintro _ co ⟨cp,rfl,am,a8⟩;have cq:TB _ _ _ _:=a8;have a9:=am.ext;have cr:=am.pos;have ct:=am.size;revert f F h;refine eE a9 ?_;intro f F h;refine cC rfl (W0.out _ _ _ Ag Ag _ _ Ag (by (try simp)<;>omega)) ?_;rintro _ br ⟨⟨⟩,⟨cu,⟨bs,ag⟩⟩⟩;have bt:=ag.size;have f:=f.fr ag Ab;refine Ah (Ae (Bn rfl ?_));exact ⟨rfl,Bld.to Ag Bd,FbX.fb Ag⟩
def AZ {t:Nd} (h:t.isPlace=true):t.isExpr=true:=by
 simp only [Nd.isPlace,bB] at h;exact h.2
def Hf {t:Nd} (h:t.isVar=true):t.isExpr=true:=by
 simp only [Nd.isVar,bB] at h;exact h.2
def F8 : ∀l:List Nd,DY l=l.all Nd.isStmt
 | []=>rfl
 | x::r=>by simp [DY,F8 r]
def JO {k n:Int} {s:lB} {l:List Nd} (h:(Nd.mk k n s l).isStmt=true):40<=k/\k<=56:=by
 by_cases f:k<40\/56<k
 . rw [KD k n s l f] at h;simp at h
 . omega
def Qr (N:Nat):(∀t:Nd,t.size<N->t.wf->t.isStmt=true->PrintsD 146 fL t)/\(∀t:Nd,t.size<N->t.wf->t.isBlock=true->PrintsD 101 fB t):=by
 induction N with
 | zero=>exact ⟨fun t h=>absurd h (Nat.not_lt_zero _),fun t h=>absurd h (Nat.not_lt_zero _)⟩
 | succ N U=>
  refine ⟨?_,?_⟩
  . rintro ⟨k,n,s,l⟩ F L f;have hk:=JO f;simp only [Nd.wf,dL] at L F;obtain ⟨V,X,Y,Z,aa,M,E⟩:=L;by_cases ab:k=40
    . subst ab;rw [D1 Bd] at f;rcases l with _|⟨x,_|⟨y,_|⟨v4,l⟩⟩⟩
      . simp [Av] at f
      . simp [Av] at f
      . simp only [Av,bB,Bool.and_true,and_true] at f;simp only [Am,A3] at F E;exact GI 40 n Ab s x y (CH x E.1 (AZ (f.2.1))) (CH y E.2.1 (f.2.2))
      . simp [Av] at f
    by_cases ac:k=41
    . subst ac;rw [D1 Bd] at f;rcases l with _|⟨x,_|⟨y,_|⟨v4,l⟩⟩⟩
      . simp [Av] at f
      . simp [Av] at f
      . simp only [Av,bB,Bool.and_true,and_true] at f;simp only [Am,A3] at F E;exact GI 41 n Ab s x y (CH x E.1 (AZ (f.2.1))) (CH y E.2.1 (f.2.2))
      . simp [Av] at f
    by_cases ad:k=42
    . subst ad;rw [D1 Bd] at f;rcases l with _|⟨x,_|⟨y,_|⟨v4,l⟩⟩⟩
      . simp [Av] at f
      . simp [Av] at f
      . simp only [Av,bB,Bool.and_true,and_true] at f;simp only [Am,A3] at F E;exact GI 42 n Ab s x y (CH x E.1 (AZ (f.2.1))) (CH y E.2.1 (f.2.2))
      . simp [Av] at f
    by_cases ae:k=43
    . subst ae;rw [Ka Bd] at f;rcases l with _|⟨x,_|⟨y,_|⟨v4,l⟩⟩⟩
      . simp [Av] at f
      . simp [Av] at f
      . simp only [Av,bB,Bool.and_true,and_true] at f;simp only [Am,A3] at F E;exact GI 43 n Ab s x y (CH x E.1 (AZ (f.2.1))) (CH y E.2.1 (AZ (f.2.2)))
      . simp [Av] at f
    by_cases af:k=44
    . subst af;rw [Gu Bd] at f;rcases l with _|⟨x,_|⟨v4,l⟩⟩
      . simp [Av] at f
      . simp only [Av,bB,Bool.and_true,and_true] at f;simp only [Am,A3] at F E;exact Qp 44 n Ab s x (CH x E.1 (AZ (f.2)))
      . simp [Av] at f
    by_cases ag:k=45
    . subst ag;rw [Gu Bd] at f;rcases l with _|⟨x,_|⟨v4,l⟩⟩
      . simp [Av] at f
      . simp only [Av,bB,Bool.and_true,and_true] at f;simp only [Am,A3] at F E;exact Qp 45 n Ab s x (CH x E.1 (AZ (f.2)))
      . simp [Av] at f
    by_cases c46:k=46
    . subst c46;rw [D2 Bd] at f;rcases l with _|⟨x,_|⟨v4,l⟩⟩
      . simp [Av] at f
      . simp only [Av,bB,Bool.and_true,and_true] at f;simp only [Am,A3] at F E;exact JM 46 n Ab s x (CH x E.1 (AZ (f.2)))
      . simp [Av] at f
    by_cases ah:k=47
    . subst ah;rw [D2 Bd] at f;rcases l with _|⟨x,_|⟨v4,l⟩⟩
      . simp [Av] at f
      . simp only [Av,bB,Bool.and_true,and_true] at f;simp only [Am,A3] at F E;exact JM 47 n Ab s x (CH x E.1 (AZ (f.2)))
      . simp [Av] at f
    by_cases ai:k=48
    . subst ai;rw [D2 Bd] at f;rcases l with _|⟨x,_|⟨v4,l⟩⟩
      . simp [Av] at f
      . simp only [Av,bB,Bool.and_true,and_true] at f;simp only [Am,A3] at F E;exact JM 48 n Ab s x (CH x E.1 (AZ (f.2)))
      . simp [Av] at f
    by_cases aj:k=49
    . subst aj;rw [D2 Bd] at f;rcases l with _|⟨x,_|⟨v4,l⟩⟩
      . simp [Av] at f
      . simp only [Av,bB,Bool.and_true,and_true] at f;simp only [Am,A3] at F E;exact JM 49 n Ab s x (CH x E.1 (AZ (f.2)))
      . simp [Av] at f
    by_cases ak:k=50
    . subst ak;rw [Gw Bd] at f;simp only [bB,cX] at f;exact Mo 50 n Ab s l M (fun x O=>CH x (BJ E x O) (Hf (f.2 x O)))
    by_cases c51:k=51
    . subst c51;rw [Gw Bd] at f;simp only [bB,cX] at f;exact Mo 51 n Ab s l M (fun x O=>CH x (BJ E x O) (Hf (f.2 x O)))
    by_cases al:k=52
    . subst al;rw [Gv Bd] at f;rcases l with _|⟨x,_|⟨y,_|⟨z,_|⟨u,_|⟨v4,l⟩⟩⟩⟩⟩
      . simp [Av] at f
      . simp [Av] at f
      . simp [Av] at f
      . simp [Av] at f
      . simp only [Av,bB,Bool.and_true,and_true] at f;simp only [Am,A3] at F E;exact VH n s x y z u (CH x E.1 (f.2.1)) (U.2 y Ab E.2.1 (f.2.2.1)) (U.2 z Ab E.2.2.1 (f.2.2.2.1)) (CH u E.2.2.2.1 (f.2.2.2.2))
      . simp [Av] at f
    by_cases c53:k=53
    . subst c53;rw [Gv Bd] at f;rcases l with _|⟨x,_|⟨y,_|⟨z,_|⟨u,_|⟨v4,l⟩⟩⟩⟩⟩
      . simp [Av] at f
      . simp [Av] at f
      . simp [Av] at f
      . simp [Av] at f
      . simp only [Av,bB,Bool.and_true,and_true] at f;simp only [Am,A3] at F E;exact VI n s x y z u (CH x E.1 (f.2.1)) (U.2 y Ab E.2.1 (f.2.2.1)) (U.2 z Ab E.2.2.1 (f.2.2.2.1)) (CH u E.2.2.2.1 (f.2.2.2.2))
      . simp [Av] at f
    by_cases am:k=54
    . subst am;rw [Kb Bd] at f;rcases l with _|⟨x,_|⟨y,_|⟨z,_|⟨v4,l⟩⟩⟩⟩
      . simp [Av] at f
      . simp [Av] at f
      . simp [Av] at f
      . simp only [Av,bB,Bool.and_true,and_true] at f;simp only [Am,A3] at F E;exact VJ n s x y z (CH x E.1 (f.2.1)) (U.2 y Ab E.2.1 (f.2.2.1)) (CH z E.2.2.1 (f.2.2.2))
      . simp [Av] at f
    by_cases an:k=55
    . subst an;rw [Kc Bd] at f;rcases l with _|⟨x,_|⟨v4,l⟩⟩
      . simp [Av] at f
      . simp only [Av,bB,Bool.and_true,and_true] at f;simp only [Am,A3] at F E;exact VK n s x (U.2 x Ab E.1 (f.2))
      . simp [Av] at f
    by_cases ao:k=56
    . subst ao;rw [D1 Bd] at f;rcases l with _|⟨x,_|⟨y,_|⟨v4,l⟩⟩⟩
      . simp [Av] at f
      . simp [Av] at f
      . simp only [Av,bB,Bool.and_true,and_true] at f;simp only [Am,A3] at F E;exact GI 56 n Ab s x y (CH x E.1 (AZ (f.2.1))) (CH y E.2.1 (f.2.2))
      . simp [Av] at f
    omega
  . rintro ⟨k,n,s,l⟩ F L f;simp only [Nd.wf,dL] at L F;obtain ⟨V,X,Y,Z,aa,M,E⟩:=L;simp only [Nd.isBlock,bB,F8,cX] at f;exact Xq k n s l M (fun x O=>U.1 x (by have:=Dz O;omega) (BJ E x O) (f.2 x O))
def Z4 (t:Nd) (f:t.wf) (h:t.isStmt=true):PrintsD 146 fL t:=(Qr (t.size+1)).1 t Ab f h
def SA (t:Nd) (f:t.wf) (h:t.isBlock=true):PrintsD 101 fB t:=(Qr (t.size+1)).2 t Ab f h
def BR (t:Nd) (f:t.wf) (h:t.isExpr=true):t.text.length<=30*t.size:=text_len (t.size+1) t Ab f h
def TX (k:Int):(CJ k).length<=12:=by
 unfold CJ;by_cases f:k=44
 . rw [AU f];decide
 rw [AE f];by_cases h:k=45
 . rw [AU h];decide
 rw [AE h];by_cases c46:k=46
 . rw [AU c46];decide
 rw [AE c46];by_cases E:k=47
 . rw [AU E];decide
 rw [AE E];by_cases F:k=48
 . rw [AU F];decide
 rw [AE F];by_cases L:k=49
 . rw [AU L];decide
 rw [AE L];by_cases M:k=50
 . rw [AU M];decide
 rw [AE M];by_cases c51:k=51
 . rw [AU c51];decide
 rw [AE c51];by_cases N:k=52
 . rw [AU N];decide
 rw [AE N];by_cases c53:k=53
 . rw [AU c53];decide
 rw [AE c53];by_cases O:k=54
 . rw [AU O];decide
 rw [AE O];by_cases U:k=55
 . rw [AU U];decide
 rw [AE U];decide
def Qs (k:Int):(EM k).length<=3:=by
 unfold EM;split
 . decide
 . split
   . decide
   . have:=FY k;omega
def Kl : ∀(l:List Nd) (q:Bool),A3 l->(∀x∈l,x.isExpr=true)->(C7 q l).length<=32*Am l
 | [],_,_,_=>by simp [C7,Am]
 | x::r,q,f,h=>by
  simp only [A3] at f;have h1:=BR x f.1 (h x Bd);have F:=Kl r false f.2 (fun y E=>h y (by simp [E]));have L:=x.size_pos;simp only [C7,Am,aU];split<;>simp<;>omega
def JP (d:Nat) : ∀l:List Nd,(∀x∈l,(x.stmtT d).length+d+2<=4000100*x.size)->(BV l d).length<=4000100*Am l
 | [],_=>by simp [BV,Am]
 | x::r,h=>by
  have h1:=h x Bd;have E:=JP d r (fun y f=>h y (by simp [f]));simp only [BV,Am,BX,aU,List.length_replicate,aV,aX];omega
def VL (N:Nat):(∀(t:Nd) (d:Nat),t.size<N->t.wf->t.isStmt=true->d+t.size<=1000000->(t.stmtT d).length+d+2<=4000100*t.size)/\(∀(t:Nd) (d:Nat),t.size<N->t.wf->t.isBlock=true->d+t.size<=1000000->(t.linesT d).length+4000100<=4000100*t.size):=by
 induction N with
 | zero=>exact ⟨fun t _ h=>absurd h (Nat.not_lt_zero _),fun t _ h=>absurd h (Nat.not_lt_zero _)⟩
 | succ N Y=>
  refine ⟨?_,?_⟩
  . rintro ⟨k,n,s,l⟩ d F U f L;have hk:=JO f;have ay:=TX k;have az:=Qs k;simp only [Nd.wf,dL] at U F L ⊢;obtain ⟨ab,ac,ad,ae,af,ag,E⟩:=U;by_cases ah:k=40
    . subst ah;rw [D1 Bd] at f;rcases l with _|⟨x,_|⟨y,_|⟨v4,l⟩⟩⟩
      . simp [Av] at f
      . simp [Av] at f
      . simp only [Av,bB,Bool.and_true,and_true] at f;simp only [Am,A3] at F E L ⊢;have M:=x.size_pos;have O:=BR x E.1 (AZ (f.2.1));have Z:=y.size_pos;have ly:=BR y E.2.1 (f.2.2);rw [Nd.stmtT.eq_def];simp only [BX];simp [-aU];simp only [aU,aV,aX,List.length_replicate];omega
      . simp [Av] at f
    by_cases ai:k=41
    . subst ai;rw [D1 Bd] at f;rcases l with _|⟨x,_|⟨y,_|⟨v4,l⟩⟩⟩
      . simp [Av] at f
      . simp [Av] at f
      . simp only [Av,bB,Bool.and_true,and_true] at f;simp only [Am,A3] at F E L ⊢;have M:=x.size_pos;have O:=BR x E.1 (AZ (f.2.1));have Z:=y.size_pos;have ly:=BR y E.2.1 (f.2.2);rw [Nd.stmtT.eq_def];simp only [BX];simp [-aU];simp only [aU,aV,aX,List.length_replicate];omega
      . simp [Av] at f
    by_cases aj:k=42
    . subst aj;rw [D1 Bd] at f;rcases l with _|⟨x,_|⟨y,_|⟨v4,l⟩⟩⟩
      . simp [Av] at f
      . simp [Av] at f
      . simp only [Av,bB,Bool.and_true,and_true] at f;simp only [Am,A3] at F E L ⊢;have M:=x.size_pos;have O:=BR x E.1 (AZ (f.2.1));have Z:=y.size_pos;have ly:=BR y E.2.1 (f.2.2);rw [Nd.stmtT.eq_def];simp only [BX];simp [-aU];simp only [aU,aV,aX,List.length_replicate];omega
      . simp [Av] at f
    by_cases ak:k=43
    . subst ak;rw [Ka Bd] at f;rcases l with _|⟨x,_|⟨y,_|⟨v4,l⟩⟩⟩
      . simp [Av] at f
      . simp [Av] at f
      . simp only [Av,bB,Bool.and_true,and_true] at f;simp only [Am,A3] at F E L ⊢;have M:=x.size_pos;have O:=BR x E.1 (AZ (f.2.1));have Z:=y.size_pos;have ly:=BR y E.2.1 (AZ (f.2.2));rw [Nd.stmtT.eq_def];simp only [BX];simp [-aU];simp only [aU,aV,aX,List.length_replicate];omega
      . simp [Av] at f
    by_cases al:k=44
    . subst al;rw [Gu Bd] at f;rcases l with _|⟨x,_|⟨v4,l⟩⟩
      . simp [Av] at f
      . simp only [Av,bB,Bool.and_true,and_true] at f;simp only [Am,A3] at F E L ⊢;have M:=x.size_pos;have O:=BR x E.1 (AZ (f.2));simp only [named,bB] at f;have V:=Cg f.1.2;rw [Nd.stmtT.eq_def];simp only [BX];simp [-aU];simp only [aU,aV,aX,List.length_replicate];omega
      . simp [Av] at f
    by_cases am:k=45
    . subst am;rw [Gu Bd] at f;rcases l with _|⟨x,_|⟨v4,l⟩⟩
      . simp [Av] at f
      . simp only [Av,bB,Bool.and_true,and_true] at f;simp only [Am,A3] at F E L ⊢;have M:=x.size_pos;have O:=BR x E.1 (AZ (f.2));simp only [named,bB] at f;have V:=Cg f.1.2;rw [Nd.stmtT.eq_def];simp only [BX];simp [-aU];simp only [aU,aV,aX,List.length_replicate];omega
      . simp [Av] at f
    by_cases c46:k=46
    . subst c46;rw [D2 Bd] at f;rcases l with _|⟨x,_|⟨v4,l⟩⟩
      . simp [Av] at f
      . simp only [Av,bB,Bool.and_true,and_true] at f;simp only [Am,A3] at F E L ⊢;have M:=x.size_pos;have O:=BR x E.1 (AZ (f.2));rw [Nd.stmtT.eq_def];simp only [BX];simp [-aU];simp only [aU,aV,aX,List.length_replicate];omega
      . simp [Av] at f
    by_cases an:k=47
    . subst an;rw [D2 Bd] at f;rcases l with _|⟨x,_|⟨v4,l⟩⟩
      . simp [Av] at f
      . simp only [Av,bB,Bool.and_true,and_true] at f;simp only [Am,A3] at F E L ⊢;have M:=x.size_pos;have O:=BR x E.1 (AZ (f.2));rw [Nd.stmtT.eq_def];simp only [BX];simp [-aU];simp only [aU,aV,aX,List.length_replicate];omega
      . simp [Av] at f
    by_cases ao:k=48
    . subst ao;rw [D2 Bd] at f;rcases l with _|⟨x,_|⟨v4,l⟩⟩
      . simp [Av] at f
      . simp only [Av,bB,Bool.and_true,and_true] at f;simp only [Am,A3] at F E L ⊢;have M:=x.size_pos;have O:=BR x E.1 (AZ (f.2));rw [Nd.stmtT.eq_def];simp only [BX];simp [-aU];simp only [aU,aV,aX,List.length_replicate];omega
      . simp [Av] at f
    by_cases ap:k=49
    . subst ap;rw [D2 Bd] at f;rcases l with _|⟨x,_|⟨v4,l⟩⟩
      . simp [Av] at f
      . simp only [Av,bB,Bool.and_true,and_true] at f;simp only [Am,A3] at F E L ⊢;have M:=x.size_pos;have O:=BR x E.1 (AZ (f.2));rw [Nd.stmtT.eq_def];simp only [BX];simp [-aU];simp only [aU,aV,aX,List.length_replicate];omega
      . simp [Av] at f
    by_cases aq:k=50
    . subst aq;rw [Gw Bd] at f;simp only [bB,cX,named] at f;have V:=Cg f.1.1.2;have ar:=Kl l true E (fun x X=>Hf (f.2 x X));have aa:(Nd.mk 50 n s l).stmtT d=CJ 50++s++[40]++C7 true l++[41]:=by rw [Nd.stmtT.eq_def];simp
      rw [aa];simp only [aU,aV,aX];omega
    by_cases c51:k=51
    . subst c51;rw [Gw Bd] at f;simp only [bB,cX,named] at f;have V:=Cg f.1.1.2;have ar:=Kl l true E (fun x X=>Hf (f.2 x X));have aa:(Nd.mk 51 n s l).stmtT d=CJ 51++s++[40]++C7 true l++[41]:=by rw [Nd.stmtT.eq_def];simp
      rw [aa];simp only [aU,aV,aX];omega
    by_cases au:k=52
    . subst au;rw [Gv Bd] at f;rcases l with _|⟨x,_|⟨y,_|⟨z,_|⟨u,_|⟨v4,l⟩⟩⟩⟩⟩
      . simp [Av] at f
      . simp [Av] at f
      . simp [Av] at f
      . simp [Av] at f
      . simp only [Av,bB,Bool.and_true,and_true] at f;simp only [Am,A3] at F E L ⊢;have M:=x.size_pos;have O:=BR x E.1 (f.2.1);have Z:=y.size_pos;have ly:=Y.2 y (d+1) Ab E.2.1 (f.2.2.1) Ab;have zz:=z.size_pos;have lz:=Y.2 z (d+1) Ab E.2.2.1 (f.2.2.2.1) Ab;have zu:=u.size_pos;have lu:=BR u E.2.2.2.1 (f.2.2.2.2);rw [Nd.stmtT.eq_def];simp only [BX];simp [-aU];simp only [aU,aV,aX,List.length_replicate];omega
      . simp [Av] at f
    by_cases c53:k=53
    . subst c53;rw [Gv Bd] at f;rcases l with _|⟨x,_|⟨y,_|⟨z,_|⟨u,_|⟨v4,l⟩⟩⟩⟩⟩
      . simp [Av] at f
      . simp [Av] at f
      . simp [Av] at f
      . simp [Av] at f
      . simp only [Av,bB,Bool.and_true,and_true] at f;simp only [Am,A3] at F E L ⊢;have M:=x.size_pos;have O:=BR x E.1 (f.2.1);have Z:=y.size_pos;have ly:=Y.2 y (d+1) Ab E.2.1 (f.2.2.1) Ab;have zz:=z.size_pos;have lz:=Y.2 z (d+1) Ab E.2.2.1 (f.2.2.2.1) Ab;have zu:=u.size_pos;have lu:=BR u E.2.2.2.1 (f.2.2.2.2);rw [Nd.stmtT.eq_def];simp only [BX];simp [-aU];simp only [aU,aV,aX,List.length_replicate];omega
      . simp [Av] at f
    by_cases av:k=54
    . subst av;rw [Kb Bd] at f;rcases l with _|⟨x,_|⟨y,_|⟨z,_|⟨v4,l⟩⟩⟩⟩
      . simp [Av] at f
      . simp [Av] at f
      . simp [Av] at f
      . simp only [Av,bB,Bool.and_true,and_true] at f;simp only [Am,A3] at F E L ⊢;have M:=x.size_pos;have O:=BR x E.1 (f.2.1);have Z:=y.size_pos;have ly:=Y.2 y (d+1) Ab E.2.1 (f.2.2.1) Ab;have zz:=z.size_pos;have lz:=BR z E.2.2.1 (f.2.2.2);simp only [named,bB] at f;have V:=Cg f.1.2;rw [Nd.stmtT.eq_def];simp only [BX];simp [-aU];simp only [aU,aV,aX,List.length_replicate];omega
      . simp [Av] at f
    by_cases aw:k=55
    . subst aw;rw [Kc Bd] at f;rcases l with _|⟨x,_|⟨v4,l⟩⟩
      . simp [Av] at f
      . simp only [Av,bB,Bool.and_true,and_true] at f;simp only [Am,A3] at F E L ⊢;have M:=x.size_pos;have O:=Y.2 x (d+1) Ab E.1 (f.2) Ab;simp only [named,bB] at f;have V:=Cg f.1.2;rw [Nd.stmtT.eq_def];simp only [BX];simp [-aU];simp only [aU,aV,aX,List.length_replicate];omega
      . simp [Av] at f
    by_cases ax:k=56
    . subst ax;rw [D1 Bd] at f;rcases l with _|⟨x,_|⟨y,_|⟨v4,l⟩⟩⟩
      . simp [Av] at f
      . simp [Av] at f
      . simp only [Av,bB,Bool.and_true,and_true] at f;simp only [Am,A3] at F E L ⊢;have M:=x.size_pos;have O:=BR x E.1 (AZ (f.2.1));have Z:=y.size_pos;have ly:=BR y E.2.1 (f.2.2);rw [Nd.stmtT.eq_def];simp only [BX];simp [-aU];simp only [aU,aV,aX,List.length_replicate];omega
      . simp [Av] at f
    omega
  . rintro ⟨k,n,s,l⟩ d F U f L;simp only [Nd.wf,dL] at U F L ⊢;obtain ⟨ab,ac,ad,ae,af,ag,E⟩:=U;simp only [Nd.isBlock,bB,F8,cX] at f;have:=JP d l (fun x X=>Y.1 x d (by have:=Dz X;omega) (BJ E x X) (f.2 x X) (by have:=Dz X;omega));simp only [fB];omega
def VM (t:Nd) (d:Nat) (f:t.wf) (h:t.isBlock=true) (E:d+t.size<=1000000):(t.linesT d).length+4000100<=4000100*t.size:=(VL (t.size+1)).2 t d Ab f h E
def I8 {α:Type} (f:α->lB) (l:List α):lB:=(l.map f).flatten
def JQ {α:Type} (f:α->lB) (l:List α) (j:Nat) (h:j<l.length):I8 f (l.take (j+1))=I8 f (l.take j)++f l[j]:=by
 unfold I8;rw [bE h];simp only [List.map_append,List.flatten_append,List.map_cons,List.map_nil,cI,List.flatten_nil,List.append_nil]
def Ik {α:Type} (f:α->lB) (l:List α) (j:Nat):(I8 f (l.take j)).length<=(I8 f l).length:=by
 have e:I8 f l=I8 f (l.take j)++I8 f (l.drop j):=by unfold I8;rw [<-List.flatten_append,<-List.map_append,cL]
 rw [e,aU];omega
def CP {α:Type} (f:α->lB):Bool->List α->lB
 | _,[]=>[]
 | q,x::r=>(if q then [] else [44,32])++f x++CP f false r
def I5 {α:Type} (f:α->lB) : ∀(l m:List α) (q:Bool),CP f q (l++m)=CP f q l++CP f (q&&l.isEmpty) m
 | [],m,q=>by simp [CP]
 | x::r,m,q=>by simp [CP,I5 f r m false]
def KV {α:Type} (f:α->lB) (l:List α) (j:Nat) (h:j<l.length):CP f true (l.take (j+1))=CP f true (l.take j)++((if j=0 then [] else [44,32])++f l[j]):=by
 rw [bE h,I5];congr 1;cases j with
 | zero=>simp [CP]
 | succ j=>cases l with
  | nil=>simp at h
  | cons x r=>simp [CP]
def IC {α:Type} (f:α->lB) (l:List α) (j:Nat):(CP f true (l.take j)).length<=(CP f true l).length:=by
 have e:CP f true l=CP f true (l.take j)++CP f (true&&(l.take j).isEmpty) (l.drop j):=by rw [<-I5,cL]
 rw [e,aU];omega
def VD.text (v:VD):lB:=if v.kind=1 then [105,110,116,32]++v.name else if v.kind=2 then [97,114,114,97,121,32]++v.name++[91]++Lib.itoa v.len++[93] else [115,116,97,99,107,32]++v.name
def VD.line (v:VD):lB:=v.text++[10]
def PD.text (p:PD):lB:=[112,114,111,99,32]++p.name++[40]++CP VD.text true p.params++[41,32,123,10]++p.body.linesT 1++[125,10]
def PG.text (g:PG):lB:=I8 VD.line g.vars++I8 PD.text g.procs++[109,97,105,110,32,123,10]++g.main.linesT 1++[125,10]
def Mp (n:Int) (f:1<=n) (h1:n<=16):(Lib.itoa n).length<=21:=Lib.itoa_length_le n Ab Ab
def VD.text_len (v:VD) (h:v.ok=true):v.text.length<=60:=by
 simp only [VD.ok,bB] at h;have h1:=Cg h.1;have f:=h.2;unfold VD.text;split
 . simp only [aU,aV,aX];omega
 . split
   . rename_i E c2;rw [AE Ab,AU c2] at f;simp only [bB,decide_eq_true_eq] at f;have:=Mp v.len f.1 f.2;simp only [aU,aV,aX];omega
   . simp only [aU,aV,aX];omega
def OE {α:Type} (f:α->lB) (B:Nat) : ∀(l:List α),(∀x∈l,(f x).length<=B)->(I8 f l).length<=l.length*B
 | [],_=>by simp [I8]
 | x::r,h=>by
  have h1:=h x List.mem_cons_self;have F:=OE f B r (fun y E=>h y (List.mem_cons_of_mem _ E));have e:I8 f (x::r)=f x++I8 f r:=by simp [I8]
  rw [e,aU,aV,Nat.add_mul,Nat.one_mul];omega
def Mq {α:Type} (f:α->lB) (B:Nat) : ∀(l:List α) (q:Bool),(∀x∈l,(f x).length<=B)->(CP f q l).length<=l.length*(B+2)
 | [],q,_=>by simp [CP]
 | x::r,q,h=>by
  have h1:=h x List.mem_cons_self;have F:=Mq f B r false (fun y E=>h y (List.mem_cons_of_mem _ E));simp only [CP,aU,aV,Nat.add_mul,Nat.one_mul];split<;>simp<;>omega
mutual
def Qt : ∀(t:Nd) (d m:Int),0<=m->(t.lim d m).1=true->(t.size:Int)+(t.lim d m).2<=m
 | .mk _ _ s l,d,m,hm,h=>by
  simp only [Nd.lim] at h ⊢;split at h
  . simp at h
  . rename_i hn;rw [AE hn];have:=KW l (d-1) (m-1) Ab h;simp only [dL];omega
def KW : ∀(l:List Nd) (d m:Int),0<=m->(Cq l d m).1=true->(Am l:Int)+(Cq l d m).2<=m
 | [],d,m,hm,_=>by simp only [Cq,Am];omega
 | t::r,d,m,hm,h=>by
  simp only [Cq] at h ⊢;split at h
  . rename_i ht;rw [AU ht];have h1:=Qt t d m hm ht;have h0:=Kj t d m hm;have h2:=KW r d (t.lim d m).2 h0.1 h;simp only [Am];omega
  . simp at h
end
def GJ (t:Nd) (f:t.wf) (h:Eb t=true):t.size<=2000/\t.isBlock=true/\(t.linesT 1).length<=8001000000:=by
 simp only [Eb,bB] at h;have h1:=Qt t 80 2000 Ab h.1;have F:=Kj t 80 2000 Ab;have E:t.size<=2000:=by omega
 have:=VM t 1 f h.2 Ab;exact ⟨E,h.2,Ab⟩
def PD.text_len (p:PD) (f:p.wf) (h:p.ok=true):p.text.length<=8002000000:=by
 simp only [PD.ok,bB,decide_eq_true_eq] at h;have h1:=Cg h.1.1.1;have L:=GJ p.body f.body h.2;have M:=Mq VD.text 60 p.params true (fun v E=>VD.text_len v (by have:=h.1.2;unfold C6 at this;exact cX.1 this v E));have F:=h.1.1.2;unfold PD.text;simp only [aU,aV,aX];have:p.params.length*62<=8*62:=Nat.mul_le_mul_right _ F;omega
def PG.text_len (g:PG) (f:g.wf) (h:g.ok=true):g.text.length<=1000000000000:=by
 simp only [PG.ok,bB,decide_eq_true_eq] at h;obtain ⟨⟨⟨⟨h1,L⟩,E⟩,M⟩,N⟩:=h;have U:=OE VD.line 61 g.vars (fun v O=>by
  have:=VD.text_len v (by unfold C6 at E;exact cX.1 E v O);simp only [VD.line,aU,aV,aX];omega)
 have a2:=OE PD.text 8002000000 g.procs (fun p F=>PD.text_len p (f.procs p F) (cX.1 M p F));have a3:=GJ g.main f.main N;have V:g.vars.length*61<=32*61:=Nat.mul_le_mul_right _ h1;have X:g.procs.length*8002000000<=64*8002000000:=Nat.mul_le_mul_right _ L;unfold PG.text;simp only [aU,aV,aX];omega
def nd3:Nd:=.mk 1 3 [] []
end Bk
namespace Bk
open Go Go.RowKit Go.Proofs
def Il (k:Int) (w:wD) (h0:0<=k) (h1:k<=255):Calls prog 239 #[.int .u8 k] w fun e w'=>e = .returned (.int .i64 (B3 k))/\w=w':=by
 go_enter func239,ntmps239
 go_wp2_with fail
 all_goals go_ret
 all_goals (refine ⟨Li ?_,rfl⟩;(try simp only [beq_iff_eq,beq_eq_false_iff_ne,ne_eq,bne_iff_ne,decide_eq_true_eq,decide_eq_false_iff_not] at *);first|(subst k;rfl)|(unfold B3;(repeat' split)<;>omega))
def Fx (k:Int) (w:wD) (h0:0<=k) (h1:k<=255):Calls prog 204 #[.int .u8 k] w fun e w'=>e = .returned (str (BQ k))/\w=w':=by
 go_enter func204,ntmps204
 go_wp2_with fail
 all_goals go_ret
 all_goals refine ⟨CS ?_,rfl⟩
 all_goals (try simp only [beq_iff_eq,beq_eq_false_iff_ne,ne_eq,bne_iff_ne,decide_eq_true_eq,decide_eq_false_iff_not] at *)
 all_goals first|(subst k;rfl)|exact (O9 k (by omega) h0).symm
def Cu (a b:lB):(⟨a.toArray⟩:ByteArray)++⟨b.toArray⟩=⟨(a++b).toArray⟩:=by
 apply ByteArray.ext;simp
def D6 (k n:Int) (s:lB) (a:oA) (l c:Nat) (w:wD) :
 Calls prog 238 #[.agg #[.int .u8 k,.int .i64 n,str s,.slice a l c]] w fun e w'=>e = .returned (.bool (Dk k))/\Ext w w':=by
 go_enter func238,ntmps238
 go_wp2_with fail
 all_goals go_ret
 all_goals exact ⟨AI (by unfold Dk;rw [Bool.eq_iff_iff];simp;try omega),(by repeat (first|exact dI _|assumption|refine dJ ?_ _|refine dX ?_|refine dK ?_ ‹_›))⟩
def E0 (s:lB) (q:Bool) (w:wD) (hs:s.length<=9223372036854775000) :
 Calls prog 237 #[str s,.bool q] w fun e w'=>e = .returned (str (wrap s q))/\w=w':=by
 cases q
 . go_enter func237,ntmps237
   go_wp2_with fail
   go_ret
   exact ⟨rfl,rfl⟩
 . go_enter func237,ntmps237
   go_wp2_with fail
   go_ret
   refine ⟨Hn ?_,rfl⟩
   show Value.string ((⟨#[40]⟩:ByteArray)++⟨s.toArray⟩++⟨#[41]⟩)=_
   rw [show (⟨#[40]⟩:ByteArray)=⟨([40]:lB).toArray⟩ from rfl,show (⟨#[41]⟩:ByteArray)=⟨([41]:lB).toArray⟩ from rfl,Cu,Cu]
   rfl
def TY (W:wD) (b:Nat) (c:Int) (h:W.cell? ⟨b,0,none⟩=some (.int .u8 c)) :
 (convert 67 9 (.slice (some ⟨b,0,none⟩) 1 1)).run prog W = .ok (str [UInt8.ofNat c.toNat]) W:=by
 have E:(loadCells ⟨b,0,none⟩ 1).run prog W = .ok ([c].map (Value.int .u8)).toArray W:=by
  refine run_loadCells_list W ⟨b,0,none⟩ [.int .u8 c] ?_;intro j v f;rcases j with _|j
  . simp at f;subst f;simpa [cU] using h
  . simp at f
 rw [run_convert_bytes_string W 67 9 5 _ _ _ Bl Bl Bl,run_bytesToString W ⟨b,0,none⟩ 1 1 [c] E];rfl
def Km (N:Nat) : ∀(n:Int) (w:wD),n<N->0<=n->n<=9223372036854775807 ->
 Calls prog 68 #[.int .i64 n] w fun e w'=>e = .returned (str (Lib.decDigits n.toNat))/\Ext w w':=by
 induction N with
 | zero=>intro n w h h0;omega
 | succ N ih=>
  intro n w hN h0 h1
  have IH:=bA ih;clear ih
  have hcv:=TY
  by_cases h10:n<10
  . have hd:Lib.decDigits n.toNat=[UInt8.ofNat (48+n.toNat)]:=by rw [Lib.decDigits,dif_pos (by omega)]
    have HD:=bA hd;clear hd
    go_enter func68,ntmps68
    go_wp2_with fail
    go_ret
    rw [HD.out]
    exact ⟨CS (by rw [show (48+n).toNat=48+n.toNat by omega]),(by refine dJ ?_ _;exact dI _)⟩
  . have hd:Lib.decDigits n.toNat=Lib.decDigits (n/10).toNat++[UInt8.ofNat (48+n.toNat%10)]:=by
     rw [Lib.decDigits,dif_neg (by omega),show n.toNat/10=(n/10).toNat by omega]
    have HD:=bA hd;clear hd
    have q1:n.tdiv 10=n/10:=Int.tdiv_eq_ediv_of_nonneg h0;have q2:n.tmod 10=n%10:=Int.tmod_eq_emod_of_nonneg h0;have q3:IntKind.i64.wrap (48+n%10)=48+n%10:=bT _ (by omega);have q4:IntKind.i64.wrap (n/10)=n/10:=bT _ (by omega)
    have q5:IntKind.u8.wrap (48+n%10)=48+n%10:=by rw [IntKind.wrap];simp [IntKind.signed,IntKind.bits];omega
    have hdl:(Lib.decDigits (n/10).toNat).length<=21:=by
     have:=Lib.itoa_length_le (n/10) (by omega) (by omega)
     unfold Lib.itoa at this
     rw [AE (by omega)] at this
     exact this
    have hsz : ¬ 9223372036854775807<(Lib.decDigits (n/10).toNat).length+1:=by omega
    have hfin:Ending.returned (Value.string ((⟨(Lib.decDigits (n/10).toNat).toArray⟩:ByteArray)++⟨#[UInt8.ofNat (48+n%10).toNat]⟩)) = .returned (str (Lib.decDigits n.toNat)):=by
     refine Hn ?_;rw [HD.out,show (⟨#[UInt8.ofNat (48+n%10).toNat]⟩:ByteArray)=⟨[UInt8.ofNat (48+n%10).toNat].toArray⟩ from rfl,Cu,show (48+n%10).toNat=48+n.toNat%10 by omega]
    have HFIN:=bA hfin;clear hfin
    go_enter func68,ntmps68
    go_wp2_with fail
    refine wp_region_held_drew (S:=fun _=>True) (by kernel_rfl) trivial (fun hHeld=>?_)
    ((refine wpAnyH_take (i:=0) (oi:=_) (v:=?v0_1) rfl (by kernel_rfl) (by kernel_rfl) (by kernel_rfl) (fun _ _ _ h=>h) (bC ⟨by rfl,?y0_1⟩) ‹_› ?r0_1);(case y0_1=>(intro w hSw;(try dsimp only at hSw);go_simp;try (with_reducible rfl)));(try simp only [Act.put,List.getElem_toArray,List.getElem_cons_zero,aW,List.setIfInBounds_toArray,aZ,List.set_cons_succ]))
    ((refine wpAnyH_take (i:=1) (oi:=_) (v:=?v1_2) rfl (by kernel_rfl) (by kernel_rfl) (by kernel_rfl) (fun _ _ _ h=>h) (bC ⟨by rfl,?y1_2⟩) ‹_› ?r1_2);(case y1_2=>(intro w hSw;(try dsimp only at hSw);go_simp;try (with_reducible rfl)));(try simp only [Act.put,List.getElem_toArray,List.getElem_cons_zero,aW,List.setIfInBounds_toArray,aZ,List.set_cons_succ]))
    ((refine wpAnyH_take (i:=3) (oi:=_) (v:=?v3_3) rfl (by kernel_rfl) (by kernel_rfl) (by kernel_rfl) (fun _ _ _ h=>h) (bC ⟨by rfl,?y3_3⟩) ‹_› ?r3_3);(case y3_3=>(intro w hSw;(try dsimp only at hSw);go_simp;try (with_reducible rfl)));(try simp only [Act.put,List.getElem_toArray,List.getElem_cons_zero,aW,List.setIfInBounds_toArray,aZ,List.set_cons_succ]))
    ((refine wpAnyH_take (i:=4) (oi:=_) (v:=?v4_4) rfl (by kernel_rfl) (by kernel_rfl) (by kernel_rfl) (fun _ _ _ h=>h) (bC ⟨by rfl,?y4_4⟩) ‹_› ?r4_4);(case y4_4=>(intro w hSw;(try dsimp only at hSw);go_simp;try (with_reducible rfl)));(try simp only [Act.put,List.getElem_toArray,List.getElem_cons_zero,aW,List.setIfInBounds_toArray,aZ,List.set_cons_succ]))
    ((refine wpAnyH_take (i:=5) (oi:=_) (v:=?v5_5) rfl (by kernel_rfl) (by kernel_rfl) (by kernel_rfl) (fun _ _ _ h=>h) (bC ⟨by rfl,?y5_5⟩) ‹_› ?r5_5);(case y5_5=>(intro w hSw;(try dsimp only at hSw);go_simp;try (with_reducible rfl)));(try simp only [Act.put,List.getElem_toArray,List.getElem_cons_zero,aW,List.setIfInBounds_toArray,aZ,List.set_cons_succ]))
    ((refine wpAnyH_take (i:=6) (oi:=_) (v:=?v6_6) rfl (by kernel_rfl) (by kernel_rfl) (by kernel_rfl) (fun _ _ _ h=>h) (bC ⟨by rfl,?y6_6⟩) ‹_› ?r6_6);(case y6_6=>(intro w hSw;(try dsimp only at hSw);go_simp;try (with_reducible rfl)));(try simp only [Act.put,List.getElem_toArray,List.getElem_cons_zero,aW,List.setIfInBounds_toArray,aZ,List.set_cons_succ]))
    ((refine wpAnyH_ready (rs:=[2,7]) (by kernel_rfl) (by simp) ?_);(refine AllReadyH.cons (o:=_) rfl (fun K hK=>?_) (AllReadyH.cons (o:=_) rfl (fun K hK=>?_) AllReadyH.nil))<;>go_simp)
    . refine (IH.out (n/10) _ (by omega) (by omega) (by omega)).mono ?_
      rintro e w1 ⟨rfl,hx1⟩;(refine hK.out _ _ trivial (fun hHeld=>?_);clear hK K;(try simp only [Act.put,List.getElem_toArray,List.getElem_cons_zero,aW,List.setIfInBounds_toArray,aZ,List.set_cons_succ]))
      ((refine wpAnyH_ready (rs:=[7]) (by kernel_rfl) (by simp) ?_);(refine AllReadyH.cons (o:=_) rfl (fun K hK=>?_) AllReadyH.nil);go_simp)
      (refine hK.out _ _ trivial (fun hHeld=>?_);clear hK K;(try simp only [Act.put,List.getElem_toArray,List.getElem_cons_zero,aW,List.setIfInBounds_toArray,aZ,List.set_cons_succ]))
      ((refine wpAnyH_ready (rs:=[8]) (by kernel_rfl) (by simp) ?_);(refine AllReadyH.cons (o:=_) rfl (fun K hK=>?_) AllReadyH.nil);go_simp)
      (refine hK.out _ _ trivial (fun hHeld=>?_);clear hK K;(try simp only [Act.put,List.getElem_toArray,List.getElem_cons_zero,aW,List.setIfInBounds_toArray,aZ,List.set_cons_succ]))
      ((refine wpAnyH_take (i:=9) (oi:=_) (v:=?v9_7) rfl (by kernel_rfl) (by kernel_rfl) (by kernel_rfl) (fun _ _ _ h=>h) (bC ⟨by rfl,?y9_7⟩) ‹_› ?r9_7);(case y9_7=>(intro w hSw;(try dsimp only at hSw);go_simp;try (with_reducible rfl)));(try simp only [Act.put,List.getElem_toArray,List.getElem_cons_zero,aW,List.setIfInBounds_toArray,aZ,List.set_cons_succ]))
      ((refine wpAnyH_take (i:=10) (oi:=_) (v:=?v10_8) rfl (by kernel_rfl) (by kernel_rfl) (by kernel_rfl) (fun _ _ _ h=>h) (bC ⟨by rfl,?y10_8⟩) ‹_› ?r10_8);(case y10_8=>(intro w hSw;(try dsimp only at hSw);go_simp;try (with_reducible rfl)));(try simp only [Act.put,List.getElem_toArray,List.getElem_cons_zero,aW,List.setIfInBounds_toArray,aZ,List.set_cons_succ]))
      (refine wpAnyH_done (by kernel_rfl) ?_ _)
      go_wp2_with fail
      go_ret
      exact ⟨HFIN.out,(by refine dJ ?_ _;refine dK ?_ ‹_›;refine dX ?_;exact dI _)⟩
    . (refine hK.out _ _ trivial (fun hHeld=>?_);clear hK K;(try simp only [Act.put,List.getElem_toArray,List.getElem_cons_zero,aW,List.setIfInBounds_toArray,aZ,List.set_cons_succ]))
      ((refine wpAnyH_ready (rs:=[2,8]) (by kernel_rfl) (by simp) ?_);(refine AllReadyH.cons (o:=_) rfl (fun K hK=>?_) (AllReadyH.cons (o:=_) rfl (fun K hK=>?_) AllReadyH.nil))<;>go_simp)
      . refine (IH.out (n/10) _ (by omega) (by omega) (by omega)).mono ?_
        rintro e w1 ⟨rfl,hx1⟩;have hc1:=hx1.cells;(refine hK.out _ _ trivial (fun hHeld=>?_);clear hK K;(try simp only [Act.put,List.getElem_toArray,List.getElem_cons_zero,aW,List.setIfInBounds_toArray,aZ,List.set_cons_succ]))
        ((refine wpAnyH_ready (rs:=[8]) (by kernel_rfl) (by simp) ?_);(refine AllReadyH.cons (o:=_) rfl (fun K hK=>?_) AllReadyH.nil);go_simp)
        (refine hK.out _ _ trivial (fun hHeld=>?_);clear hK K;(try simp only [Act.put,List.getElem_toArray,List.getElem_cons_zero,aW,List.setIfInBounds_toArray,aZ,List.set_cons_succ]))
        ((refine wpAnyH_take (i:=9) (oi:=_) (v:=?v9_9) rfl (by kernel_rfl) (by kernel_rfl) (by kernel_rfl) (fun _ _ _ h=>h) (bC ⟨by rfl,?y9_9⟩) ‹_› ?r9_9);(case y9_9=>(intro w hSw;(try dsimp only at hSw);go_simp;try (with_reducible rfl)));(try simp only [Act.put,List.getElem_toArray,List.getElem_cons_zero,aW,List.setIfInBounds_toArray,aZ,List.set_cons_succ]))
        ((refine wpAnyH_take (i:=10) (oi:=_) (v:=?v10_10) rfl (by kernel_rfl) (by kernel_rfl) (by kernel_rfl) (fun _ _ _ h=>h) (bC ⟨by rfl,?y10_10⟩) ‹_› ?r10_10);(case y10_10=>(intro w hSw;(try dsimp only at hSw);go_simp;try (with_reducible rfl)));(try simp only [Act.put,List.getElem_toArray,List.getElem_cons_zero,aW,List.setIfInBounds_toArray,aZ,List.set_cons_succ]))
        (refine wpAnyH_done (by kernel_rfl) ?_ _)
        go_wp2_with fail
        go_ret
        exact ⟨HFIN.out,(by refine dK ?_ ‹_›;refine dX ?_;refine dJ ?_ _;exact dI _)⟩
      . (refine hK.out _ _ trivial (fun hHeld=>?_);clear hK K;(try simp only [Act.put,List.getElem_toArray,List.getElem_cons_zero,aW,List.setIfInBounds_toArray,aZ,List.set_cons_succ]))
        ((refine wpAnyH_ready (rs:=[2]) (by kernel_rfl) (by simp) ?_);(refine AllReadyH.cons (o:=_) rfl (fun K hK=>?_) AllReadyH.nil);go_simp)
        refine (IH.out (n/10) _ (by omega) (by omega) (by omega)).mono ?_;rintro e w1 ⟨rfl,hx1⟩;(refine hK.out _ _ trivial (fun hHeld=>?_);clear hK K;(try simp only [Act.put,List.getElem_toArray,List.getElem_cons_zero,aW,List.setIfInBounds_toArray,aZ,List.set_cons_succ]))
        ((refine wpAnyH_take (i:=9) (oi:=_) (v:=?v9_11) rfl (by kernel_rfl) (by kernel_rfl) (by kernel_rfl) (fun _ _ _ h=>h) (bC ⟨by rfl,?y9_11⟩) ‹_› ?r9_11);(case y9_11=>(intro w hSw;(try dsimp only at hSw);go_simp;try (with_reducible rfl)));(try simp only [Act.put,List.getElem_toArray,List.getElem_cons_zero,aW,List.setIfInBounds_toArray,aZ,List.set_cons_succ]))
        ((refine wpAnyH_take (i:=10) (oi:=_) (v:=?v10_12) rfl (by kernel_rfl) (by kernel_rfl) (by kernel_rfl) (fun _ _ _ h=>h) (bC ⟨by rfl,?y10_12⟩) ‹_› ?r10_12);(case y10_12=>(intro w hSw;(try dsimp only at hSw);go_simp;try (with_reducible rfl)));(try simp only [Act.put,List.getElem_toArray,List.getElem_cons_zero,aW,List.setIfInBounds_toArray,aZ,List.set_cons_succ]))
        (refine wpAnyH_done (by kernel_rfl) ?_ _)
        go_wp2_with fail
        go_ret
        exact ⟨HFIN.out,(by refine dK ?_ ‹_›;refine dX ?_;refine dJ ?_ _;exact dI _)⟩
def C8 (S:nP) (f:FuncId) (OK:Nd->lB) (t:Nd):Prop:=
 ∀(a:oA) (c:Nat) (w:wD),t.sits S w a->Calls prog f #[t.val a c] w fun e w'=>e = .returned (str (OK t))/\Ext w w'
def Zy (S:nP) (n:Int) (s:lB) (l:List Nd) (hn0:0<=n) (hn1:n<=9223372036854775807):C8 S 203 dT (.mk 1 n s l):=by
 intro a c w hs
 have htx:(Nd.mk 1 n s l).text=Lib.decDigits n.toNat:=by rw [Nd.text.eq_def];simp [Lib.itoa];intro h;omega
 rw [htx];simp only [dM,dU,dO,dN,dW];clear hs
 go_enter func203,ntmps203
 go_wp2_with (go_at_call 68;refine (Km (n.toNat+1) n _ (by omega) hn0 hn1).mono ?_;rintro e w1 ⟨rfl,hx1⟩)
 go_ret
 exact ⟨rfl,(by refine dK ?_ ‹_›;refine dJ ?_ _;exact dI _)⟩
def Zz (S:nP) (n:Int) (s:lB) (l:List Nd):C8 S 203 dT (.mk 2 n s l):=by
 intro a c w hs
 have htx:(Nd.mk 2 n s l).text=s:=by rw [Nd.text.eq_def];simp
 rw [htx];simp only [dM,dU,dO,dN,dW];clear hs
 go_enter func203,ntmps203
 go_wp2_with fail
 go_ret
 exact ⟨rfl,(by refine dJ ?_ _;exact dI _)⟩
def ZA (S:nP) (n:Int) (s:lB) (l:List Nd) (hsl:s.length<=1000):C8 S 203 dT (.mk 4 n s l):=by
 intro a c w hs
 have htx:(Nd.mk 4 n s l).text=[116,111,112,40]++s++[41]:=by rw [Nd.text.eq_def];simp
 rw [htx];simp only [dM,dU,dO,dN,dW];clear hs
 go_enter func203,ntmps203
 go_wp2_with fail
 go_ret
 refine ⟨Hn ?_,(by refine dJ ?_ _;exact dI _)⟩
 show Value.string ((⟨([116,111,112,40]:lB).toArray⟩:ByteArray)++⟨s.toArray⟩++⟨([41]:lB).toArray⟩)=_
 rw [Cu,Cu]
 rfl
def ZB (S:nP) (n:Int) (s:lB) (l:List Nd) (hsl:s.length<=1000):C8 S 203 dT (.mk 5 n s l):=by
 intro a c w hs
 have htx:(Nd.mk 5 n s l).text=[115,105,122,101,40]++s++[41]:=by rw [Nd.text.eq_def];simp
 rw [htx];simp only [dM,dU,dO,dN,dW];clear hs
 go_enter func203,ntmps203
 go_wp2_with fail
 go_ret
 refine ⟨Hn ?_,(by refine dJ ?_ _;exact dI _)⟩
 show Value.string ((⟨([115,105,122,101,40]:lB).toArray⟩:ByteArray)++⟨s.toArray⟩++⟨([41]:lB).toArray⟩)=_
 rw [Cu,Cu]
 rfl
def ZC (S:nP) (n:Int) (s:lB) (x:Nd) (hx:C8 S 203 dT x) (hsl:s.length<=1000) (hxl:x.text.length<=1000000000000000):C8 S 203 dT (.mk 3 n s [x]):=by
 intro a c w hs
 have htx:(Nd.mk 3 n s [x]).text=s++[91]++x.text++[93]:=by rw [Nd.text.eq_def];simp
 rw [htx]
 have HX:=bA hx;clear hx htx
 simp only [dM,dU,dO,dN,dW,dY,aV,aX] at hs ⊢;obtain ⟨xk,xn,xs,xl⟩:=x;obtain ⟨kb,ko,xa,xc,rfl,-,k0,k1,k2,k3,hxs⟩:=TQ hs;simp only [dM,dU,dO,dN] at k0 k1 k2 k3;have hkw:=Cb k0;simp only at hkw
 have hne:kb≠w.heap.size:=by omega
 generalize htt:(Nd.mk xk xn xs xl).text=tx at *
 have HTT:=bA htt;clear htt
 have z1 : ¬ 9223372036854775807<s.length+1:=by omega
 have z2 : ¬ 9223372036854775807<s.length+1+tx.length:=by omega
 have z3 : ¬ 9223372036854775807<s.length+1+tx.length+1:=by omega
 go_enter func203,ntmps203
 go_wp2_with fail
 refine wp_region_held_drew (S:=fun w'=>w'.cell? ⟨w.heap.size,2,none⟩=some (str s)/\w'.cell? ⟨w.heap.size,3,none⟩=some (.slice (some ⟨kb,ko,none⟩) 1 c)/\w'.cell? ⟨kb,ko,none⟩=some (.int .u8 xk)/\w'.cell? ⟨kb,ko+1,none⟩=some (.int .i64 xn)/\w'.cell? ⟨kb,ko+2,none⟩=some (str xs)/\w'.cell? ⟨kb,ko+3,none⟩=some (.slice xa xl.length xc)) (by kernel_rfl) (by go_simp) (fun hHeld=>?_);obtain ⟨q2,q3,m0,m1,m2,m3⟩:=id hHeld
 ((refine wpAnyH_take (i:=0) (oi:=_) (v:=?v0_1) rfl (by kernel_rfl) (by kernel_rfl) (by kernel_rfl) (fun _ _ _ h=>h) (bC ⟨by rfl,?y0_1⟩) ‹_› ?r0_1);(case y0_1=>(intro w hSw;(try dsimp only at hSw);go_simp;try (with_reducible rfl)));(try simp only [Act.put,List.getElem_toArray,List.getElem_cons_zero,aW,List.setIfInBounds_toArray,aZ,List.set_cons_succ]))
 ((refine wpAnyH_take (i:=1) (oi:=_) (v:=?v1_2) rfl (by kernel_rfl) (by kernel_rfl) (by kernel_rfl) (fun _ _ _ h=>h) (bC ⟨by rfl,?y1_2⟩) ‹_› ?r1_2);(case y1_2=>(intro w hSw;(try dsimp only at hSw);go_simp;try (with_reducible rfl)));(try simp only [Act.put,List.getElem_toArray,List.getElem_cons_zero,aW,List.setIfInBounds_toArray,aZ,List.set_cons_succ]))
 ((refine wpAnyH_take (i:=2) (oi:=_) (v:=?v2_3) rfl (by kernel_rfl) (by kernel_rfl) (by kernel_rfl) (fun _ _ _ h=>h) (bC ⟨by rfl,?y2_3⟩) ‹_› ?r2_3);(case y2_3=>(intro w hSw;(try dsimp only at hSw);go_simp;try (with_reducible rfl)));(try simp only [Act.put,List.getElem_toArray,List.getElem_cons_zero,aW,List.setIfInBounds_toArray,aZ,List.set_cons_succ]))
 ((refine wpAnyH_take (i:=3) (oi:=_) (v:=?v3_4) rfl (by kernel_rfl) (by kernel_rfl) (by kernel_rfl) (fun _ _ _ h=>h) (bC ⟨by rfl,?y3_4⟩) ‹_› ?r3_4);(case y3_4=>(intro w hSw;(try dsimp only at hSw);go_simp;try (with_reducible rfl)));(try simp only [Act.put,List.getElem_toArray,List.getElem_cons_zero,aW,List.setIfInBounds_toArray,aZ,List.set_cons_succ]))
 ((refine wpAnyH_take (i:=4) (oi:=_) (v:=?v4_5) rfl (by kernel_rfl) (by kernel_rfl) (by kernel_rfl) (fun _ _ _ h=>h) (bC ⟨by rfl,?y4_5⟩) ‹_› ?r4_5);(case y4_5=>(intro w hSw;(try dsimp only at hSw);go_simp;try (with_reducible rfl)));(try simp only [Act.put,List.getElem_toArray,List.getElem_cons_zero,aW,List.setIfInBounds_toArray,aZ,List.set_cons_succ]))
 ((refine wpAnyH_take (i:=5) (oi:=_) (v:=?v5_6) rfl (by kernel_rfl) (by kernel_rfl) (by kernel_rfl) (fun _ _ _ h=>h) (bC ⟨by rfl,?y5_6⟩) ‹_› ?r5_6);(case y5_6=>(intro w hSw;(try dsimp only at hSw);go_simp;try (with_reducible rfl)));(try simp only [Act.put,List.getElem_toArray,List.getElem_cons_zero,aW,List.setIfInBounds_toArray,aZ,List.set_cons_succ]))
 ((refine wpAnyH_take (i:=6) (oi:=_) (v:=?v6_7) rfl (by kernel_rfl) (by kernel_rfl) (by kernel_rfl) (fun _ _ _ h=>h) (bC ⟨by rfl,?y6_7⟩) ‹_› ?r6_7);(case y6_7=>(intro w hSw;(try dsimp only at hSw);go_simp;try (with_reducible rfl)));(try simp only [Act.put,List.getElem_toArray,List.getElem_cons_zero,aW,List.setIfInBounds_toArray,aZ,List.set_cons_succ]))
 ((refine wpAnyH_ready (rs:=[7]) (by kernel_rfl) (by simp) ?_);(refine AllReadyH.cons (o:=_) rfl (fun K hK=>?_) AllReadyH.nil);go_simp)
 refine (HX.out xa xc _ (hxs.ext (by refine dX ?_;refine dJ ?_ _;exact dI _))).mono ?_;rintro e w1 ⟨rfl,hx1⟩;rw [HTT.out];refine hK.out _ _ ⟨hx1.keep q2,hx1.keep q3,hx1.keep m0,hx1.keep m1,hx1.keep m2,hx1.keep m3⟩ (fun hHeld=>?_);clear hK K;(try simp only [Act.put,List.getElem_toArray,List.getElem_cons_zero,aW,List.setIfInBounds_toArray,aZ,List.set_cons_succ])
 ((refine wpAnyH_take (i:=8) (oi:=_) (v:=?v8_8) rfl (by kernel_rfl) (by kernel_rfl) (by kernel_rfl) (fun _ _ _ h=>h) (bC ⟨by rfl,?y8_8⟩) ‹_› ?r8_8);(case y8_8=>(intro w hSw;(try dsimp only at hSw);go_simp;try (with_reducible rfl)));(try simp only [Act.put,List.getElem_toArray,List.getElem_cons_zero,aW,List.setIfInBounds_toArray,aZ,List.set_cons_succ]))
 ((refine wpAnyH_take (i:=9) (oi:=_) (v:=?v9_9) rfl (by kernel_rfl) (by kernel_rfl) (by kernel_rfl) (fun _ _ _ h=>h) (bC ⟨by rfl,?y9_9⟩) ‹_› ?r9_9);(case y9_9=>(intro w hSw;(try dsimp only at hSw);go_simp;try (with_reducible rfl)));(try simp only [Act.put,List.getElem_toArray,List.getElem_cons_zero,aW,List.setIfInBounds_toArray,aZ,List.set_cons_succ]))
 ((refine wpAnyH_take (i:=10) (oi:=_) (v:=?v10_10) rfl (by kernel_rfl) (by kernel_rfl) (by kernel_rfl) (fun _ _ _ h=>h) (bC ⟨by rfl,?y10_10⟩) ‹_› ?r10_10);(case y10_10=>(intro w hSw;(try dsimp only at hSw);go_simp;try (with_reducible rfl)));(try simp only [Act.put,List.getElem_toArray,List.getElem_cons_zero,aW,List.setIfInBounds_toArray,aZ,List.set_cons_succ]))
 (refine wpAnyH_done (by kernel_rfl) ?_ _)
 go_wp2_with fail
 go_ret
 refine ⟨Hn ?_,(by refine dK ?_ ‹_›;refine dX ?_;refine dJ ?_ _;exact dI _)⟩
 show Value.string ((⟨s.toArray⟩:ByteArray)++⟨([91]:lB).toArray⟩++⟨tx.toArray⟩++⟨([93]:lB).toArray⟩)=_
 rw [Cu,Cu,Cu]
def YU (S:nP) (k n:Int) (s:lB) (x:Nd) (hk:k=6\/k=7) (hx:C8 S 203 dT x) (hxl:x.text.length<=1000000000000000):C8 S 203 dT (.mk k n s [x]):=by
 intro a c w hs
 have htx:(Nd.mk k n s [x]).text=BQ k++wrap x.text (Dk x.kind):=by rcases hk with rfl|rfl<;>(rw [Nd.text.eq_def];simp)
 rw [htx]
 have HX:=bA hx;clear hx htx
 simp only [dM,dU,dO,dN,dW,dY,aV,aX] at hs ⊢;obtain ⟨xk,xn,xs,xl⟩:=x;obtain ⟨kb,ko,xa,xc,rfl,-,k0,k1,k2,k3,hxs⟩:=TQ hs;simp only [dM,dU,dO,dN] at k0 k1 k2 k3 ⊢;have hkw:=Cb k0;simp only at hkw
 have hne:kb≠w.heap.size:=by omega
 generalize htt:(Nd.mk xk xn xs xl).text=tx at *
 have HTT:=bA htt;clear htt
 have hk0:0<=k/\k<=255:=by omega
 obtain ⟨hk0,hk1⟩:=hk0
 have d1:(k==1)=false:=by rw [beq_eq_false_iff_ne];omega
 have d2:(k==2)=false:=by rw [beq_eq_false_iff_ne];omega
 have d3:(k==3)=false:=by rw [beq_eq_false_iff_ne];omega
 have d4:(k==4)=false:=by rw [beq_eq_false_iff_ne];omega
 have d5:(k==5)=false:=by rw [beq_eq_false_iff_ne];omega
 have hsy:=FY k;have hwl:=GG tx (Dk xk)
 have z1 : ¬ 9223372036854775807<(BQ k).length+(wrap tx (Dk xk)).length:=by omega
 have dk:(k==6)=true\/(k==6)=false/\(k==7)=true:=by rcases hk with rfl|rfl<;>simp
 clear hk hsy hwl
 rcases dk with d6|⟨d6,d7⟩
 . skip
   go_enter func203,ntmps203
   go_wp2_with fail
   refine wp_region_held_drew (S:=fun w'=>w'.cell? ⟨w.heap.size,0,none⟩=some (.int .u8 k)/\w'.cell? ⟨w.heap.size,3,none⟩=some (.slice (some ⟨kb,ko,none⟩) 1 c)/\w'.cell? ⟨kb,ko,none⟩=some (.int .u8 xk)/\w'.cell? ⟨kb,ko+1,none⟩=some (.int .i64 xn)/\w'.cell? ⟨kb,ko+2,none⟩=some (str xs)/\w'.cell? ⟨kb,ko+3,none⟩=some (.slice xa xl.length xc)) (by kernel_rfl) (by go_simp) (fun hHeld=>?_);obtain ⟨q0,q3,m0,m1,m2,m3⟩:=id hHeld
   ((refine wpAnyH_take (i:=0) (oi:=_) (v:=?v0_11) rfl (by kernel_rfl) (by kernel_rfl) (by kernel_rfl) (fun _ _ _ h=>h) (bC ⟨by rfl,?y0_11⟩) ‹_› ?r0_11);(case y0_11=>(intro w hSw;(try dsimp only at hSw);go_simp;try (with_reducible rfl)));(try simp only [Act.put,List.getElem_toArray,List.getElem_cons_zero,aW,List.setIfInBounds_toArray,aZ,List.set_cons_succ]))
   ((refine wpAnyH_take (i:=1) (oi:=_) (v:=?v1_12) rfl (by kernel_rfl) (by kernel_rfl) (by kernel_rfl) (fun _ _ _ h=>h) (bC ⟨by rfl,?y1_12⟩) ‹_› ?r1_12);(case y1_12=>(intro w hSw;(try dsimp only at hSw);go_simp;try (with_reducible rfl)));(try simp only [Act.put,List.getElem_toArray,List.getElem_cons_zero,aW,List.setIfInBounds_toArray,aZ,List.set_cons_succ]))
   ((refine wpAnyH_take (i:=3) (oi:=_) (v:=?v3_13) rfl (by kernel_rfl) (by kernel_rfl) (by kernel_rfl) (fun _ _ _ h=>h) (bC ⟨by rfl,?y3_13⟩) ‹_› ?r3_13);(case y3_13=>(intro w hSw;(try dsimp only at hSw);go_simp;try (with_reducible rfl)));(try simp only [Act.put,List.getElem_toArray,List.getElem_cons_zero,aW,List.setIfInBounds_toArray,aZ,List.set_cons_succ]))
   ((refine wpAnyH_take (i:=4) (oi:=_) (v:=?v4_14) rfl (by kernel_rfl) (by kernel_rfl) (by kernel_rfl) (fun _ _ _ h=>h) (bC ⟨by rfl,?y4_14⟩) ‹_› ?r4_14);(case y4_14=>(intro w hSw;(try dsimp only at hSw);go_simp;try (with_reducible rfl)));(try simp only [Act.put,List.getElem_toArray,List.getElem_cons_zero,aW,List.setIfInBounds_toArray,aZ,List.set_cons_succ]))
   ((refine wpAnyH_take (i:=5) (oi:=_) (v:=?v5_15) rfl (by kernel_rfl) (by kernel_rfl) (by kernel_rfl) (fun _ _ _ h=>h) (bC ⟨by rfl,?y5_15⟩) ‹_› ?r5_15);(case y5_15=>(intro w hSw;(try dsimp only at hSw);go_simp;try (with_reducible rfl)));(try simp only [Act.put,List.getElem_toArray,List.getElem_cons_zero,aW,List.setIfInBounds_toArray,aZ,List.set_cons_succ]))
   ((refine wpAnyH_take (i:=6) (oi:=_) (v:=?v6_16) rfl (by kernel_rfl) (by kernel_rfl) (by kernel_rfl) (fun _ _ _ h=>h) (bC ⟨by rfl,?y6_16⟩) ‹_› ?r6_16);(case y6_16=>(intro w hSw;(try dsimp only at hSw);go_simp;try (with_reducible rfl)));(try simp only [Act.put,List.getElem_toArray,List.getElem_cons_zero,aW,List.setIfInBounds_toArray,aZ,List.set_cons_succ]))
   ((refine wpAnyH_take (i:=8) (oi:=_) (v:=?v8_17) rfl (by kernel_rfl) (by kernel_rfl) (by kernel_rfl) (fun _ _ _ h=>h) (bC ⟨by rfl,?y8_17⟩) ‹_› ?r8_17);(case y8_17=>(intro w hSw;(try dsimp only at hSw);go_simp;try (with_reducible rfl)));(try simp only [Act.put,List.getElem_toArray,List.getElem_cons_zero,aW,List.setIfInBounds_toArray,aZ,List.set_cons_succ]))
   ((refine wpAnyH_take (i:=9) (oi:=_) (v:=?v9_18) rfl (by kernel_rfl) (by kernel_rfl) (by kernel_rfl) (fun _ _ _ h=>h) (bC ⟨by rfl,?y9_18⟩) ‹_› ?r9_18);(case y9_18=>(intro w hSw;(try dsimp only at hSw);go_simp;try (with_reducible rfl)));(try simp only [Act.put,List.getElem_toArray,List.getElem_cons_zero,aW,List.setIfInBounds_toArray,aZ,List.set_cons_succ]))
   ((refine wpAnyH_take (i:=10) (oi:=_) (v:=?v10_19) rfl (by kernel_rfl) (by kernel_rfl) (by kernel_rfl) (fun _ _ _ h=>h) (bC ⟨by rfl,?y10_19⟩) ‹_› ?r10_19);(case y10_19=>(intro w hSw;(try dsimp only at hSw);go_simp;try (with_reducible rfl)));(try simp only [Act.put,List.getElem_toArray,List.getElem_cons_zero,aW,List.setIfInBounds_toArray,aZ,List.set_cons_succ]))
   ((refine wpAnyH_take (i:=11) (oi:=_) (v:=?v11_20) rfl (by kernel_rfl) (by kernel_rfl) (by kernel_rfl) (fun _ _ _ h=>h) (bC ⟨by rfl,?y11_20⟩) ‹_› ?r11_20);(case y11_20=>(intro w hSw;(try dsimp only at hSw);go_simp;try (with_reducible rfl)));(try simp only [Act.put,List.getElem_toArray,List.getElem_cons_zero,aW,List.setIfInBounds_toArray,aZ,List.set_cons_succ]))
   ((refine wpAnyH_ready (rs:=[2]) (by kernel_rfl) (by simp) ?_);(refine AllReadyH.cons (o:=_) rfl (fun K hK=>?_) AllReadyH.nil);go_simp)
   refine (Fx _ _ hk0 hk1).mono ?_;rintro e w1 ⟨rfl,rfl⟩;refine hK.out _ _ ⟨q0,q3,m0,m1,m2,m3⟩ (fun hHeld=>?_);clear hK K;(try simp only [Act.put,List.getElem_toArray,List.getElem_cons_zero,aW,List.setIfInBounds_toArray,aZ,List.set_cons_succ])
   ((refine wpAnyH_ready (rs:=[7]) (by kernel_rfl) (by simp) ?_);(refine AllReadyH.cons (o:=_) rfl (fun K hK=>?_) AllReadyH.nil);go_simp)
   refine (HX.out xa xc _ (hxs.ext (by refine dX ?_;refine dJ ?_ _;exact dI _))).mono ?_;rintro e w1 ⟨rfl,hx1⟩;rw [HTT.out];refine hK.out _ _ ⟨hx1.keep q0,hx1.keep q3,hx1.keep m0,hx1.keep m1,hx1.keep m2,hx1.keep m3⟩ (fun hHeld=>?_);clear hK K;(try simp only [Act.put,List.getElem_toArray,List.getElem_cons_zero,aW,List.setIfInBounds_toArray,aZ,List.set_cons_succ])
   ((refine wpAnyH_ready (rs:=[12]) (by kernel_rfl) (by simp) ?_);(refine AllReadyH.cons (o:=_) rfl (fun K hK=>?_) AllReadyH.nil);go_simp)
   refine (D6 _ _ _ _ _ _ _).mono ?_;rintro e w2 ⟨rfl,hx2⟩;refine hK.out _ _ ⟨(hx1.trans hx2).keep q0,(hx1.trans hx2).keep q3,(hx1.trans hx2).keep m0,(hx1.trans hx2).keep m1,(hx1.trans hx2).keep m2,(hx1.trans hx2).keep m3⟩ (fun hHeld=>?_);clear hK K;(try simp only [Act.put,List.getElem_toArray,List.getElem_cons_zero,aW,List.setIfInBounds_toArray,aZ,List.set_cons_succ])
   ((refine wpAnyH_ready (rs:=[13]) (by kernel_rfl) (by simp) ?_);(refine AllReadyH.cons (o:=_) rfl (fun K hK=>?_) AllReadyH.nil);go_simp)
   refine (E0 _ _ _ (by omega)).mono ?_;rintro e w3 ⟨rfl,rfl⟩;refine hK.out _ _ ⟨(hx1.trans hx2).keep q0,(hx1.trans hx2).keep q3,(hx1.trans hx2).keep m0,(hx1.trans hx2).keep m1,(hx1.trans hx2).keep m2,(hx1.trans hx2).keep m3⟩ (fun hHeld=>?_);clear hK K;(try simp only [Act.put,List.getElem_toArray,List.getElem_cons_zero,aW,List.setIfInBounds_toArray,aZ,List.set_cons_succ])
   ((refine wpAnyH_take (i:=14) (oi:=_) (v:=?v14_21) rfl (by kernel_rfl) (by kernel_rfl) (by kernel_rfl) (fun _ _ _ h=>h) (bC ⟨by rfl,?y14_21⟩) ‹_› ?r14_21);(case y14_21=>(intro w hSw;(try dsimp only at hSw);go_simp;try (with_reducible rfl)));(try simp only [Act.put,List.getElem_toArray,List.getElem_cons_zero,aW,List.setIfInBounds_toArray,aZ,List.set_cons_succ]))
   ((refine wpAnyH_take (i:=15) (oi:=_) (v:=?v15_22) rfl (by kernel_rfl) (by kernel_rfl) (by kernel_rfl) (fun _ _ _ h=>h) (bC ⟨by rfl,?y15_22⟩) ‹_› ?r15_22);(case y15_22=>(intro w hSw;(try dsimp only at hSw);go_simp;try (with_reducible rfl)));(try simp only [Act.put,List.getElem_toArray,List.getElem_cons_zero,aW,List.setIfInBounds_toArray,aZ,List.set_cons_succ]))
   (refine wpAnyH_done (by kernel_rfl) ?_ _)
   go_wp2_with fail
   go_ret
   refine ⟨Hn ?_,(by refine dK ?_ ‹_›;refine dK ?_ ‹_›;refine dX ?_;refine dJ ?_ _;exact dI _)⟩
   show Value.string ((⟨(BQ k).toArray⟩:ByteArray)++⟨(wrap tx (Dk xk)).toArray⟩)=_
   rw [Cu]
 . skip
   go_enter func203,ntmps203
   go_wp2_with fail
   refine wp_region_held_drew (S:=fun w'=>w'.cell? ⟨w.heap.size,0,none⟩=some (.int .u8 k)/\w'.cell? ⟨w.heap.size,3,none⟩=some (.slice (some ⟨kb,ko,none⟩) 1 c)/\w'.cell? ⟨kb,ko,none⟩=some (.int .u8 xk)/\w'.cell? ⟨kb,ko+1,none⟩=some (.int .i64 xn)/\w'.cell? ⟨kb,ko+2,none⟩=some (str xs)/\w'.cell? ⟨kb,ko+3,none⟩=some (.slice xa xl.length xc)) (by kernel_rfl) (by go_simp) (fun hHeld=>?_);obtain ⟨q0,q3,m0,m1,m2,m3⟩:=id hHeld
   ((refine wpAnyH_take (i:=0) (oi:=_) (v:=?v0_23) rfl (by kernel_rfl) (by kernel_rfl) (by kernel_rfl) (fun _ _ _ h=>h) (bC ⟨by rfl,?y0_23⟩) ‹_› ?r0_23);(case y0_23=>(intro w hSw;(try dsimp only at hSw);go_simp;try (with_reducible rfl)));(try simp only [Act.put,List.getElem_toArray,List.getElem_cons_zero,aW,List.setIfInBounds_toArray,aZ,List.set_cons_succ]))
   ((refine wpAnyH_take (i:=1) (oi:=_) (v:=?v1_24) rfl (by kernel_rfl) (by kernel_rfl) (by kernel_rfl) (fun _ _ _ h=>h) (bC ⟨by rfl,?y1_24⟩) ‹_› ?r1_24);(case y1_24=>(intro w hSw;(try dsimp only at hSw);go_simp;try (with_reducible rfl)));(try simp only [Act.put,List.getElem_toArray,List.getElem_cons_zero,aW,List.setIfInBounds_toArray,aZ,List.set_cons_succ]))
   ((refine wpAnyH_take (i:=3) (oi:=_) (v:=?v3_25) rfl (by kernel_rfl) (by kernel_rfl) (by kernel_rfl) (fun _ _ _ h=>h) (bC ⟨by rfl,?y3_25⟩) ‹_› ?r3_25);(case y3_25=>(intro w hSw;(try dsimp only at hSw);go_simp;try (with_reducible rfl)));(try simp only [Act.put,List.getElem_toArray,List.getElem_cons_zero,aW,List.setIfInBounds_toArray,aZ,List.set_cons_succ]))
   ((refine wpAnyH_take (i:=4) (oi:=_) (v:=?v4_26) rfl (by kernel_rfl) (by kernel_rfl) (by kernel_rfl) (fun _ _ _ h=>h) (bC ⟨by rfl,?y4_26⟩) ‹_› ?r4_26);(case y4_26=>(intro w hSw;(try dsimp only at hSw);go_simp;try (with_reducible rfl)));(try simp only [Act.put,List.getElem_toArray,List.getElem_cons_zero,aW,List.setIfInBounds_toArray,aZ,List.set_cons_succ]))
   ((refine wpAnyH_take (i:=5) (oi:=_) (v:=?v5_27) rfl (by kernel_rfl) (by kernel_rfl) (by kernel_rfl) (fun _ _ _ h=>h) (bC ⟨by rfl,?y5_27⟩) ‹_› ?r5_27);(case y5_27=>(intro w hSw;(try dsimp only at hSw);go_simp;try (with_reducible rfl)));(try simp only [Act.put,List.getElem_toArray,List.getElem_cons_zero,aW,List.setIfInBounds_toArray,aZ,List.set_cons_succ]))
   ((refine wpAnyH_take (i:=6) (oi:=_) (v:=?v6_28) rfl (by kernel_rfl) (by kernel_rfl) (by kernel_rfl) (fun _ _ _ h=>h) (bC ⟨by rfl,?y6_28⟩) ‹_› ?r6_28);(case y6_28=>(intro w hSw;(try dsimp only at hSw);go_simp;try (with_reducible rfl)));(try simp only [Act.put,List.getElem_toArray,List.getElem_cons_zero,aW,List.setIfInBounds_toArray,aZ,List.set_cons_succ]))
   ((refine wpAnyH_take (i:=8) (oi:=_) (v:=?v8_29) rfl (by kernel_rfl) (by kernel_rfl) (by kernel_rfl) (fun _ _ _ h=>h) (bC ⟨by rfl,?y8_29⟩) ‹_› ?r8_29);(case y8_29=>(intro w hSw;(try dsimp only at hSw);go_simp;try (with_reducible rfl)));(try simp only [Act.put,List.getElem_toArray,List.getElem_cons_zero,aW,List.setIfInBounds_toArray,aZ,List.set_cons_succ]))
   ((refine wpAnyH_take (i:=9) (oi:=_) (v:=?v9_30) rfl (by kernel_rfl) (by kernel_rfl) (by kernel_rfl) (fun _ _ _ h=>h) (bC ⟨by rfl,?y9_30⟩) ‹_› ?r9_30);(case y9_30=>(intro w hSw;(try dsimp only at hSw);go_simp;try (with_reducible rfl)));(try simp only [Act.put,List.getElem_toArray,List.getElem_cons_zero,aW,List.setIfInBounds_toArray,aZ,List.set_cons_succ]))
   ((refine wpAnyH_take (i:=10) (oi:=_) (v:=?v10_31) rfl (by kernel_rfl) (by kernel_rfl) (by kernel_rfl) (fun _ _ _ h=>h) (bC ⟨by rfl,?y10_31⟩) ‹_› ?r10_31);(case y10_31=>(intro w hSw;(try dsimp only at hSw);go_simp;try (with_reducible rfl)));(try simp only [Act.put,List.getElem_toArray,List.getElem_cons_zero,aW,List.setIfInBounds_toArray,aZ,List.set_cons_succ]))
   ((refine wpAnyH_take (i:=11) (oi:=_) (v:=?v11_32) rfl (by kernel_rfl) (by kernel_rfl) (by kernel_rfl) (fun _ _ _ h=>h) (bC ⟨by rfl,?y11_32⟩) ‹_› ?r11_32);(case y11_32=>(intro w hSw;(try dsimp only at hSw);go_simp;try (with_reducible rfl)));(try simp only [Act.put,List.getElem_toArray,List.getElem_cons_zero,aW,List.setIfInBounds_toArray,aZ,List.set_cons_succ]))
   ((refine wpAnyH_ready (rs:=[2]) (by kernel_rfl) (by simp) ?_);(refine AllReadyH.cons (o:=_) rfl (fun K hK=>?_) AllReadyH.nil);go_simp)
   refine (Fx _ _ hk0 hk1).mono ?_;rintro e w1 ⟨rfl,rfl⟩;refine hK.out _ _ ⟨q0,q3,m0,m1,m2,m3⟩ (fun hHeld=>?_);clear hK K;(try simp only [Act.put,List.getElem_toArray,List.getElem_cons_zero,aW,List.setIfInBounds_toArray,aZ,List.set_cons_succ])
   ((refine wpAnyH_ready (rs:=[7]) (by kernel_rfl) (by simp) ?_);(refine AllReadyH.cons (o:=_) rfl (fun K hK=>?_) AllReadyH.nil);go_simp)
   refine (HX.out xa xc _ (hxs.ext (by refine dX ?_;refine dJ ?_ _;exact dI _))).mono ?_;rintro e w1 ⟨rfl,hx1⟩;rw [HTT.out];refine hK.out _ _ ⟨hx1.keep q0,hx1.keep q3,hx1.keep m0,hx1.keep m1,hx1.keep m2,hx1.keep m3⟩ (fun hHeld=>?_);clear hK K;(try simp only [Act.put,List.getElem_toArray,List.getElem_cons_zero,aW,List.setIfInBounds_toArray,aZ,List.set_cons_succ])
   ((refine wpAnyH_ready (rs:=[12]) (by kernel_rfl) (by simp) ?_);(refine AllReadyH.cons (o:=_) rfl (fun K hK=>?_) AllReadyH.nil);go_simp)
   refine (D6 _ _ _ _ _ _ _).mono ?_;rintro e w2 ⟨rfl,hx2⟩;refine hK.out _ _ ⟨(hx1.trans hx2).keep q0,(hx1.trans hx2).keep q3,(hx1.trans hx2).keep m0,(hx1.trans hx2).keep m1,(hx1.trans hx2).keep m2,(hx1.trans hx2).keep m3⟩ (fun hHeld=>?_);clear hK K;(try simp only [Act.put,List.getElem_toArray,List.getElem_cons_zero,aW,List.setIfInBounds_toArray,aZ,List.set_cons_succ])
   ((refine wpAnyH_ready (rs:=[13]) (by kernel_rfl) (by simp) ?_);(refine AllReadyH.cons (o:=_) rfl (fun K hK=>?_) AllReadyH.nil);go_simp)
   refine (E0 _ _ _ (by omega)).mono ?_;rintro e w3 ⟨rfl,rfl⟩;refine hK.out _ _ ⟨(hx1.trans hx2).keep q0,(hx1.trans hx2).keep q3,(hx1.trans hx2).keep m0,(hx1.trans hx2).keep m1,(hx1.trans hx2).keep m2,(hx1.trans hx2).keep m3⟩ (fun hHeld=>?_);clear hK K;(try simp only [Act.put,List.getElem_toArray,List.getElem_cons_zero,aW,List.setIfInBounds_toArray,aZ,List.set_cons_succ])
   ((refine wpAnyH_take (i:=14) (oi:=_) (v:=?v14_33) rfl (by kernel_rfl) (by kernel_rfl) (by kernel_rfl) (fun _ _ _ h=>h) (bC ⟨by rfl,?y14_33⟩) ‹_› ?r14_33);(case y14_33=>(intro w hSw;(try dsimp only at hSw);go_simp;try (with_reducible rfl)));(try simp only [Act.put,List.getElem_toArray,List.getElem_cons_zero,aW,List.setIfInBounds_toArray,aZ,List.set_cons_succ]))
   ((refine wpAnyH_take (i:=15) (oi:=_) (v:=?v15_34) rfl (by kernel_rfl) (by kernel_rfl) (by kernel_rfl) (fun _ _ _ h=>h) (bC ⟨by rfl,?y15_34⟩) ‹_› ?r15_34);(case y15_34=>(intro w hSw;(try dsimp only at hSw);go_simp;try (with_reducible rfl)));(try simp only [Act.put,List.getElem_toArray,List.getElem_cons_zero,aW,List.setIfInBounds_toArray,aZ,List.set_cons_succ]))
   (refine wpAnyH_done (by kernel_rfl) ?_ _)
   go_wp2_with fail
   go_ret
   refine ⟨Hn ?_,(by refine dK ?_ ‹_›;refine dK ?_ ‹_›;refine dX ?_;refine dJ ?_ _;exact dI _)⟩
   show Value.string ((⟨(BQ k).toArray⟩:ByteArray)++⟨(wrap tx (Dk xk)).toArray⟩)=_
   rw [Cu]
set_option maxHeartbeats 8000000 in
def Xs (S:nP) (k n:Int) (s:lB) (x y:Nd) (hk8:8<=k) (hk23:k<=23) (hx:C8 S 203 dT x) (hy:C8 S 203 dT y) (hxl:x.text.length<=1000000000000000) (hyl:y.text.length<=1000000000000000):C8 S 203 dT (.mk k n s [x,y]):=by
 intro a c w hs
 have htx:(Nd.mk k n s [x,y]).text=wrap x.text (Ei x.kind k)++[32]++BQ k++[32]++wrap y.text (ED y.kind k):=by
  rw [Nd.text.eq_def];simp only [];rw [AE (by omega),AE (by omega),AE (by omega),AE (by omega),AE (by omega),AE (by omega)]
 rw [htx]
 have d1:(k==1)=false:=by rw [beq_eq_false_iff_ne];omega
 have d2:(k==2)=false:=by rw [beq_eq_false_iff_ne];omega
 have d3:(k==3)=false:=by rw [beq_eq_false_iff_ne];omega
 have d4:(k==4)=false:=by rw [beq_eq_false_iff_ne];omega
 have d5:(k==5)=false:=by rw [beq_eq_false_iff_ne];omega
 have d6:(k==6)=false:=by rw [beq_eq_false_iff_ne];omega
 have d7:(k==7)=false:=by rw [beq_eq_false_iff_ne];omega
 have HX:=bA hx;clear hx htx
 have HY:=bA hy;clear hy
 simp only [dM,dU,dO,dN,dW,dY,aV,aX] at hs ⊢;obtain ⟨xk,xn,xs,xl⟩:=x;obtain ⟨yk,yn,ys,yl⟩:=y;obtain ⟨kb,ko,xa,xc,ya,yc,rfl,-,⟨k0,k1,k2,k3,hxs⟩,⟨m0,m1,m2,m3,hys⟩⟩:=Zx hs;simp only [dM,dU,dO,dN] at k0 k1 k2 k3 m0 m1 m2 m3 ⊢;have hkw:=Cb k0;simp only at hkw
 have hkw1:kb<w.heap.size+1:=by omega
 have m1':w.cell? ⟨kb,ko+5,none⟩=some (.int .i64 yn):=m1;have m2':w.cell? ⟨kb,ko+6,none⟩=some (str ys):=m2;have m3':w.cell? ⟨kb,ko+7,none⟩=some (.slice ya yl.length yc):=m3
 generalize htt:(Nd.mk xk xn xs xl).text=tx at *
 have HTx:=bA htt;clear htt
 generalize htt:(Nd.mk yk yn ys yl).text=ty at *
 have HTy:=bA htt;clear htt
 go_enter func203,ntmps203
 go_wp2_with fail
 refine (Il _ _ (by omega) (by omega)).mono ?_;rintro e w1 ⟨rfl,rfl⟩;simp only
 go_upto_region 18 with fail
 have hbn:Box w.heap.size #[.int .u8 k,.int .i64 n,str s,.slice (some ⟨kb,ko,none⟩) 2 c] 32 (((w.alloc (.cells #[.int .u8 k,.int .i64 n,str s,.slice (some ⟨kb,ko,none⟩) 2 c] 32)).alloc (.cells #[.int .u8 xk,.int .i64 xn,str xs,.slice xa xl.length xc] 32)).alloc (.cells #[.int .u8 yk,.int .i64 yn,str ys,.slice ya yl.length yc] 32)):=((Box.new _ _ _).alloc _).alloc _;have hbl:Box (w.heap.size+1) #[.int .u8 xk,.int .i64 xn,str xs,.slice xa xl.length xc] 32 (((w.alloc (.cells #[.int .u8 k,.int .i64 n,str s,.slice (some ⟨kb,ko,none⟩) 2 c] 32)).alloc (.cells #[.int .u8 xk,.int .i64 xn,str xs,.slice xa xl.length xc] 32)).alloc (.cells #[.int .u8 yk,.int .i64 yn,str ys,.slice ya yl.length yc] 32)):=(Box.new' _ _ (by simp)).alloc _;have hbr:Box (w.heap.size+1+1) #[.int .u8 yk,.int .i64 yn,str ys,.slice ya yl.length yc] 32 (((w.alloc (.cells #[.int .u8 k,.int .i64 n,str s,.slice (some ⟨kb,ko,none⟩) 2 c] 32)).alloc (.cells #[.int .u8 xk,.int .i64 xn,str xs,.slice xa xl.length xc] 32)).alloc (.cells #[.int .u8 yk,.int .i64 yn,str ys,.slice ya yl.length yc] 32)):=Box.new' _ _ (by simp);have hxW:Ext w (((w.alloc (.cells #[.int .u8 k,.int .i64 n,str s,.slice (some ⟨kb,ko,none⟩) 2 c] 32)).alloc (.cells #[.int .u8 xk,.int .i64 xn,str xs,.slice xa xl.length xc] 32)).alloc (.cells #[.int .u8 yk,.int .i64 yn,str ys,.slice ya yl.length yc] 32)):=(by refine dJ ?_ _;refine dJ ?_ _;refine dJ ?_ _;exact dI _)
 generalize (((w.alloc (.cells #[.int .u8 k,.int .i64 n,str s,.slice (some ⟨kb,ko,none⟩) 2 c] 32)).alloc (.cells #[.int .u8 xk,.int .i64 xn,str xs,.slice xa xl.length xc] 32)).alloc (.cells #[.int .u8 yk,.int .i64 yn,str ys,.slice ya yl.length yc] 32))=W at *
 generalize w.heap.size+1+1=pr at *
 generalize w.heap.size+1=pl at *
 have hxs1:=hxs.ext hxW;have hys1:=hys.ext hxW;clear k0 k1 k2 k3 m0 m1 m2 m3 m1' m2' m3' hxs hys hs hkw hkw1
 go_cut [6] (fun s6 u=>s6=str (wrap tx (Ei xk k))/\Ext W u)
 case first=>
  cases hq:Dk xk
  . have HQ:=bA hq;clear hq
    refine wp_region_held_drew (S:=fun w'=>w'.cell? ⟨pl,0,none⟩=some (.int .u8 xk)/\w'.cell? ⟨pl,1,none⟩=some (.int .i64 xn)/\w'.cell? ⟨pl,2,none⟩=some (str xs)/\w'.cell? ⟨pl,3,none⟩=some (.slice xa xl.length xc)) (by kernel_rfl) hbl.node (fun hHeld=>?_);obtain ⟨m0,m1,m2,m3⟩:=id hHeld
    ((refine wpAnyH_take (i:=0) (oi:=_) (v:=?v0_35) rfl (by kernel_rfl) (by kernel_rfl) (by kernel_rfl) (fun _ _ _ h=>h) (bC ⟨by rfl,?y0_35⟩) ‹_› ?r0_35);(case y0_35=>(intro w hSw;(try dsimp only at hSw);go_simp;try (with_reducible rfl)));(try simp only [Act.put,List.getElem_toArray,List.getElem_cons_zero,aW,List.setIfInBounds_toArray,aZ,List.set_cons_succ]))
    ((refine wpAnyH_take (i:=2) (oi:=_) (v:=?v2_36) rfl (by kernel_rfl) (by kernel_rfl) (by kernel_rfl) (fun _ _ _ h=>h) (bC ⟨by rfl,?y2_36⟩) ‹_› ?r2_36);(case y2_36=>(intro w hSw;(try dsimp only at hSw);go_simp;try (with_reducible rfl)));(try simp only [Act.put,List.getElem_toArray,List.getElem_cons_zero,aW,List.setIfInBounds_toArray,aZ,List.set_cons_succ]))
    ((refine wpAnyH_ready (rs:=[1]) (by kernel_rfl) (by simp) ?_);(refine AllReadyH.cons (o:=_) rfl (fun K hK=>?_) AllReadyH.nil);go_simp)
    refine (HX.out xa xc _ (hxs1.ext (by refine dX ?_;exact dI _))).mono ?_;rintro e u1 ⟨rfl,hu1⟩;rw [HTx.out];refine hK.out _ _ ⟨hu1.keep m0,hu1.keep m1,hu1.keep m2,hu1.keep m3⟩ (fun hHeld=>?_);clear hK K;(try simp only [Act.put,List.getElem_toArray,List.getElem_cons_zero,aW,List.setIfInBounds_toArray,aZ,List.set_cons_succ])
    ((refine wpAnyH_ready (rs:=[3]) (by kernel_rfl) (by simp) ?_);(refine AllReadyH.cons (o:=_) rfl (fun K hK=>?_) AllReadyH.nil);go_simp)
    refine (D6 _ _ _ _ _ _ _).mono ?_;rintro e u2 ⟨rfl,hu2⟩;rw [HQ.out];refine hK.out _ _ ⟨(hu1.trans hu2).keep m0,(hu1.trans hu2).keep m1,(hu1.trans hu2).keep m2,(hu1.trans hu2).keep m3⟩ (fun hHeld=>?_);clear hK K;(try simp only [Act.put,List.getElem_toArray,List.getElem_cons_zero,aW,List.setIfInBounds_toArray,aZ,List.set_cons_succ])
    ((refine wpAnyH_take (i:=4) (oi:=_) (v:=?v4_37) rfl (by kernel_rfl) (by kernel_rfl) (by kernel_rfl) (fun _ _ _ h=>h) (bC ⟨by rfl,?y4_37⟩) ‹_› ?r4_37);(case y4_37=>(intro w hSw;(try dsimp only at hSw);go_simp;try (with_reducible rfl)));(try simp only [Act.put,List.getElem_toArray,List.getElem_cons_zero,aW,List.setIfInBounds_toArray,aZ,List.set_cons_succ]))
    ((refine wpAnyH_take (i:=5) (oi:=_) (v:=undef) rfl (by kernel_rfl) (by kernel_rfl) (by kernel_rfl) (fun _ _ _ h=>h) (bF ⟨by rfl,rfl⟩) ‹_› ?_);(try simp only [Act.put,List.getElem_toArray,List.getElem_cons_zero,aW,List.setIfInBounds_toArray,aZ,List.set_cons_succ]))
    ((refine wpAnyH_take (i:=6) (oi:=_) (v:=undef) rfl (by kernel_rfl) (by kernel_rfl) (by kernel_rfl) (fun _ _ _ h=>h) (bF ⟨by rfl,rfl⟩) ‹_› ?_);(try simp only [Act.put,List.getElem_toArray,List.getElem_cons_zero,aW,List.setIfInBounds_toArray,aZ,List.set_cons_succ]))
    ((refine wpAnyH_take (i:=7) (oi:=_) (v:=undef) rfl (by kernel_rfl) (by kernel_rfl) (by kernel_rfl) (fun _ _ _ h=>h) (bF ⟨by rfl,rfl⟩) ‹_› ?_);(try simp only [Act.put,List.getElem_toArray,List.getElem_cons_zero,aW,List.setIfInBounds_toArray,aZ,List.set_cons_succ]))
    ((refine wpAnyH_take (i:=8) (oi:=_) (v:=undef) rfl (by kernel_rfl) (by kernel_rfl) (by kernel_rfl) (fun _ _ _ h=>h) (bF ⟨by rfl,rfl⟩) ‹_› ?_);(try simp only [Act.put,List.getElem_toArray,List.getElem_cons_zero,aW,List.setIfInBounds_toArray,aZ,List.set_cons_succ]))
    ((refine wpAnyH_take (i:=9) (oi:=_) (v:=undef) rfl (by kernel_rfl) (by kernel_rfl) (by kernel_rfl) (fun _ _ _ h=>h) (bF ⟨by rfl,rfl⟩) ‹_› ?_);(try simp only [Act.put,List.getElem_toArray,List.getElem_cons_zero,aW,List.setIfInBounds_toArray,aZ,List.set_cons_succ]))
    ((refine wpAnyH_take (i:=10) (oi:=_) (v:=?v10_38) rfl (by kernel_rfl) (by kernel_rfl) (by kernel_rfl) (fun _ _ _ h=>h) (bC ⟨by rfl,?y10_38⟩) ‹_› ?r10_38);(case y10_38=>(intro w hSw;(try dsimp only at hSw);go_simp;try (with_reducible rfl)));(try simp only [Act.put,List.getElem_toArray,List.getElem_cons_zero,aW,List.setIfInBounds_toArray,aZ,List.set_cons_succ]))
    ((refine wpAnyH_ready (rs:=[11]) (by kernel_rfl) (by simp) ?_);(refine AllReadyH.cons (o:=_) rfl (fun K hK=>?_) AllReadyH.nil);go_simp)
    refine (E0 _ _ _ (by omega)).mono ?_;rintro e u3 ⟨rfl,rfl⟩;rw [show wrap tx _=wrap tx (Ei xk k) from by rw [Mg HQ.out]];refine hK.out _ _ ⟨(hu1.trans hu2).keep m0,(hu1.trans hu2).keep m1,(hu1.trans hu2).keep m2,(hu1.trans hu2).keep m3⟩ (fun hHeld=>?_);clear hK K hHeld;(try simp only [Act.put,List.getElem_toArray,List.getElem_cons_zero,aW,List.setIfInBounds_toArray,aZ,List.set_cons_succ])
    ((refine wpAnyH_take (i:=12) (oi:=_) (v:=?v12_39) rfl (by kernel_rfl) (by kernel_rfl) (by kernel_rfl) (fun _ _ _ h=>h) (bC ⟨by rfl,?y12_39⟩) ‹_› ?r12_39);(case y12_39=>(intro w hSw;(try dsimp only at hSw);go_simp;try (with_reducible rfl)));(try simp only [Act.put,List.getElem_toArray,List.getElem_cons_zero,aW,List.setIfInBounds_toArray,aZ,List.set_cons_succ]))
    (refine wpAnyH_done (by kernel_rfl) ?_ _)
    go_wp2_with fail
    go_meet
    exact ⟨rfl,dK (dK (dI _).drew hu1) hu2⟩
  . have HQ:=bA hq;clear hq
    refine wp_region_held_drew (S:=fun w'=>w'.cell? ⟨pl,0,none⟩=some (.int .u8 xk)/\w'.cell? ⟨pl,1,none⟩=some (.int .i64 xn)/\w'.cell? ⟨pl,2,none⟩=some (str xs)/\w'.cell? ⟨pl,3,none⟩=some (.slice xa xl.length xc)) (by kernel_rfl) hbl.node (fun hHeld=>?_);obtain ⟨m0,m1,m2,m3⟩:=id hHeld
    ((refine wpAnyH_take (i:=0) (oi:=_) (v:=?v0_40) rfl (by kernel_rfl) (by kernel_rfl) (by kernel_rfl) (fun _ _ _ h=>h) (bC ⟨by rfl,?y0_40⟩) ‹_› ?r0_40);(case y0_40=>(intro w hSw;(try dsimp only at hSw);go_simp;try (with_reducible rfl)));(try simp only [Act.put,List.getElem_toArray,List.getElem_cons_zero,aW,List.setIfInBounds_toArray,aZ,List.set_cons_succ]))
    ((refine wpAnyH_take (i:=2) (oi:=_) (v:=?v2_41) rfl (by kernel_rfl) (by kernel_rfl) (by kernel_rfl) (fun _ _ _ h=>h) (bC ⟨by rfl,?y2_41⟩) ‹_› ?r2_41);(case y2_41=>(intro w hSw;(try dsimp only at hSw);go_simp;try (with_reducible rfl)));(try simp only [Act.put,List.getElem_toArray,List.getElem_cons_zero,aW,List.setIfInBounds_toArray,aZ,List.set_cons_succ]))
    ((refine wpAnyH_ready (rs:=[1]) (by kernel_rfl) (by simp) ?_);(refine AllReadyH.cons (o:=_) rfl (fun K hK=>?_) AllReadyH.nil);go_simp)
    refine (HX.out xa xc _ (hxs1.ext (by refine dX ?_;exact dI _))).mono ?_;rintro e u1 ⟨rfl,hu1⟩;rw [HTx.out];refine hK.out _ _ ⟨hu1.keep m0,hu1.keep m1,hu1.keep m2,hu1.keep m3⟩ (fun hHeld=>?_);clear hK K;(try simp only [Act.put,List.getElem_toArray,List.getElem_cons_zero,aW,List.setIfInBounds_toArray,aZ,List.set_cons_succ])
    ((refine wpAnyH_ready (rs:=[3]) (by kernel_rfl) (by simp) ?_);(refine AllReadyH.cons (o:=_) rfl (fun K hK=>?_) AllReadyH.nil);go_simp)
    refine (D6 _ _ _ _ _ _ _).mono ?_;rintro e u2 ⟨rfl,hu2⟩;rw [HQ.out];refine hK.out _ _ ⟨(hu1.trans hu2).keep m0,(hu1.trans hu2).keep m1,(hu1.trans hu2).keep m2,(hu1.trans hu2).keep m3⟩ (fun hHeld=>?_);clear hK K;(try simp only [Act.put,List.getElem_toArray,List.getElem_cons_zero,aW,List.setIfInBounds_toArray,aZ,List.set_cons_succ])
    ((refine wpAnyH_take (i:=4) (oi:=_) (v:=?v4_42) rfl (by kernel_rfl) (by kernel_rfl) (by kernel_rfl) (fun _ _ _ h=>h) (bC ⟨by rfl,?y4_42⟩) ‹_› ?r4_42);(case y4_42=>(intro w hSw;(try dsimp only at hSw);go_simp;try (with_reducible rfl)));(try simp only [Act.put,List.getElem_toArray,List.getElem_cons_zero,aW,List.setIfInBounds_toArray,aZ,List.set_cons_succ]))
    have hbk:8<=xk/\xk<=23:=by have:=HQ.out;simp [Dk] at this;exact this
    obtain ⟨hbk0,hbk1⟩:=hbk
    ((refine wpAnyH_take (i:=5) (oi:=_) (v:=?v5_43) rfl (by kernel_rfl) (by kernel_rfl) (by kernel_rfl) (fun _ _ _ h=>h) (bC ⟨by rfl,?y5_43⟩) ‹_› ?r5_43);(case y5_43=>(intro w hSw;(try dsimp only at hSw);go_simp;try (with_reducible rfl)));(try simp only [Act.put,List.getElem_toArray,List.getElem_cons_zero,aW,List.setIfInBounds_toArray,aZ,List.set_cons_succ]))
    ((refine wpAnyH_take (i:=6) (oi:=_) (v:=?v6_44) rfl (by kernel_rfl) (by kernel_rfl) (by kernel_rfl) (fun _ _ _ h=>h) (bC ⟨by rfl,?y6_44⟩) ‹_› ?r6_44);(case y6_44=>(intro w hSw;(try dsimp only at hSw);go_simp;try (with_reducible rfl)));(try simp only [Act.put,List.getElem_toArray,List.getElem_cons_zero,aW,List.setIfInBounds_toArray,aZ,List.set_cons_succ]))
    ((refine wpAnyH_take (i:=8) (oi:=_) (v:=?v8_45) rfl (by kernel_rfl) (by kernel_rfl) (by kernel_rfl) (fun _ _ _ h=>h) (bC ⟨by rfl,?y8_45⟩) ‹_› ?r8_45);(case y8_45=>(intro w hSw;(try dsimp only at hSw);go_simp;try (with_reducible rfl)));(try simp only [Act.put,List.getElem_toArray,List.getElem_cons_zero,aW,List.setIfInBounds_toArray,aZ,List.set_cons_succ]))
    ((refine wpAnyH_ready (rs:=[7]) (by kernel_rfl) (by simp) ?_);(refine AllReadyH.cons (o:=_) rfl (fun K hK=>?_) AllReadyH.nil);go_simp)
    refine (Il _ _ (by omega) (by omega)).mono ?_;rintro e u' ⟨rfl,rfl⟩;refine hK.out _ _ ⟨(hu1.trans hu2).keep m0,(hu1.trans hu2).keep m1,(hu1.trans hu2).keep m2,(hu1.trans hu2).keep m3⟩ (fun hHeld=>?_);clear hK K;(try simp only [Act.put,List.getElem_toArray,List.getElem_cons_zero,aW,List.setIfInBounds_toArray,aZ,List.set_cons_succ])
    ((refine wpAnyH_take (i:=9) (oi:=_) (v:=?v9_46) rfl (by kernel_rfl) (by kernel_rfl) (by kernel_rfl) (fun _ _ _ h=>h) (bC ⟨by rfl,?y9_46⟩) ‹_› ?r9_46);(case y9_46=>(intro w hSw;(try dsimp only at hSw);go_simp;try (with_reducible rfl)));(try simp only [Act.put,List.getElem_toArray,List.getElem_cons_zero,aW,List.setIfInBounds_toArray,aZ,List.set_cons_succ]))
    ((refine wpAnyH_take (i:=10) (oi:=_) (v:=?v10_47) rfl (by kernel_rfl) (by kernel_rfl) (by kernel_rfl) (fun _ _ _ h=>h) (bC ⟨by rfl,?y10_47⟩) ‹_› ?r10_47);(case y10_47=>(intro w hSw;(try dsimp only at hSw);go_simp;try (with_reducible rfl)));(try simp only [Act.put,List.getElem_toArray,List.getElem_cons_zero,aW,List.setIfInBounds_toArray,aZ,List.set_cons_succ]))
    ((refine wpAnyH_ready (rs:=[11]) (by kernel_rfl) (by simp) ?_);(refine AllReadyH.cons (o:=_) rfl (fun K hK=>?_) AllReadyH.nil);go_simp)
    refine (E0 _ _ _ (by omega)).mono ?_;rintro e u3 ⟨rfl,rfl⟩;rw [show wrap tx _=wrap tx (Ei xk k) from by rw [Mi HQ.out decide_eq_true_iff]];refine hK.out _ _ ⟨(hu1.trans hu2).keep m0,(hu1.trans hu2).keep m1,(hu1.trans hu2).keep m2,(hu1.trans hu2).keep m3⟩ (fun hHeld=>?_);clear hK K hHeld;(try simp only [Act.put,List.getElem_toArray,List.getElem_cons_zero,aW,List.setIfInBounds_toArray,aZ,List.set_cons_succ])
    ((refine wpAnyH_take (i:=12) (oi:=_) (v:=?v12_48) rfl (by kernel_rfl) (by kernel_rfl) (by kernel_rfl) (fun _ _ _ h=>h) (bC ⟨by rfl,?y12_48⟩) ‹_› ?r12_48);(case y12_48=>(intro w hSw;(try dsimp only at hSw);go_simp;try (with_reducible rfl)));(try simp only [Act.put,List.getElem_toArray,List.getElem_cons_zero,aW,List.setIfInBounds_toArray,aZ,List.set_cons_succ]))
    (refine wpAnyH_done (by kernel_rfl) ?_ _)
    go_wp2_with fail
    go_meet
    exact ⟨rfl,dK (dK (dI _).drew hu1) hu2⟩
 case rest=>
  obtain ⟨V,hV⟩ : ∃V:wD,V=wc:=⟨wc,rfl⟩;subst hV;obtain ⟨rfl,hWV⟩:=hcut;have hbr1:=hbr.ext hWV;have hys1:=hys1.ext hWV
  go_upto_region 19 with fail
  go_cut [7] (fun s7 u=>s7=str (wrap ty (ED yk k))/\Ext V u)
  case first=>
   cases hq:Dk yk
   . have HQ:=bA hq;clear hq
     refine wp_region_held_drew (S:=fun w'=>w'.cell? ⟨pr,0,none⟩=some (.int .u8 yk)/\w'.cell? ⟨pr,1,none⟩=some (.int .i64 yn)/\w'.cell? ⟨pr,2,none⟩=some (str ys)/\w'.cell? ⟨pr,3,none⟩=some (.slice ya yl.length yc)) (by kernel_rfl) hbr1.node (fun hHeld=>?_);obtain ⟨m0,m1,m2,m3⟩:=id hHeld
     ((refine wpAnyH_take (i:=0) (oi:=_) (v:=?v0_49) rfl (by kernel_rfl) (by kernel_rfl) (by kernel_rfl) (fun _ _ _ h=>h) (bC ⟨by rfl,?y0_49⟩) ‹_› ?r0_49);(case y0_49=>(intro w hSw;(try dsimp only at hSw);go_simp;try (with_reducible rfl)));(try simp only [Act.put,List.getElem_toArray,List.getElem_cons_zero,aW,List.setIfInBounds_toArray,aZ,List.set_cons_succ]))
     ((refine wpAnyH_take (i:=2) (oi:=_) (v:=?v2_50) rfl (by kernel_rfl) (by kernel_rfl) (by kernel_rfl) (fun _ _ _ h=>h) (bC ⟨by rfl,?y2_50⟩) ‹_› ?r2_50);(case y2_50=>(intro w hSw;(try dsimp only at hSw);go_simp;try (with_reducible rfl)));(try simp only [Act.put,List.getElem_toArray,List.getElem_cons_zero,aW,List.setIfInBounds_toArray,aZ,List.set_cons_succ]))
     ((refine wpAnyH_ready (rs:=[1]) (by kernel_rfl) (by simp) ?_);(refine AllReadyH.cons (o:=_) rfl (fun K hK=>?_) AllReadyH.nil);go_simp)
     refine (HY.out ya yc _ (hys1.ext (by refine dX ?_;exact dI _))).mono ?_;rintro e u1 ⟨rfl,hu1⟩;rw [HTy.out];refine hK.out _ _ ⟨hu1.keep m0,hu1.keep m1,hu1.keep m2,hu1.keep m3⟩ (fun hHeld=>?_);clear hK K;(try simp only [Act.put,List.getElem_toArray,List.getElem_cons_zero,aW,List.setIfInBounds_toArray,aZ,List.set_cons_succ])
     ((refine wpAnyH_ready (rs:=[3]) (by kernel_rfl) (by simp) ?_);(refine AllReadyH.cons (o:=_) rfl (fun K hK=>?_) AllReadyH.nil);go_simp)
     refine (D6 _ _ _ _ _ _ _).mono ?_;rintro e u2 ⟨rfl,hu2⟩;rw [HQ.out];refine hK.out _ _ ⟨(hu1.trans hu2).keep m0,(hu1.trans hu2).keep m1,(hu1.trans hu2).keep m2,(hu1.trans hu2).keep m3⟩ (fun hHeld=>?_);clear hK K;(try simp only [Act.put,List.getElem_toArray,List.getElem_cons_zero,aW,List.setIfInBounds_toArray,aZ,List.set_cons_succ])
     ((refine wpAnyH_take (i:=4) (oi:=_) (v:=?v4_51) rfl (by kernel_rfl) (by kernel_rfl) (by kernel_rfl) (fun _ _ _ h=>h) (bC ⟨by rfl,?y4_51⟩) ‹_› ?r4_51);(case y4_51=>(intro w hSw;(try dsimp only at hSw);go_simp;try (with_reducible rfl)));(try simp only [Act.put,List.getElem_toArray,List.getElem_cons_zero,aW,List.setIfInBounds_toArray,aZ,List.set_cons_succ]))
     ((refine wpAnyH_take (i:=5) (oi:=_) (v:=undef) rfl (by kernel_rfl) (by kernel_rfl) (by kernel_rfl) (fun _ _ _ h=>h) (bF ⟨by rfl,rfl⟩) ‹_› ?_);(try simp only [Act.put,List.getElem_toArray,List.getElem_cons_zero,aW,List.setIfInBounds_toArray,aZ,List.set_cons_succ]))
     ((refine wpAnyH_take (i:=6) (oi:=_) (v:=undef) rfl (by kernel_rfl) (by kernel_rfl) (by kernel_rfl) (fun _ _ _ h=>h) (bF ⟨by rfl,rfl⟩) ‹_› ?_);(try simp only [Act.put,List.getElem_toArray,List.getElem_cons_zero,aW,List.setIfInBounds_toArray,aZ,List.set_cons_succ]))
     ((refine wpAnyH_take (i:=7) (oi:=_) (v:=undef) rfl (by kernel_rfl) (by kernel_rfl) (by kernel_rfl) (fun _ _ _ h=>h) (bF ⟨by rfl,rfl⟩) ‹_› ?_);(try simp only [Act.put,List.getElem_toArray,List.getElem_cons_zero,aW,List.setIfInBounds_toArray,aZ,List.set_cons_succ]))
     ((refine wpAnyH_take (i:=8) (oi:=_) (v:=undef) rfl (by kernel_rfl) (by kernel_rfl) (by kernel_rfl) (fun _ _ _ h=>h) (bF ⟨by rfl,rfl⟩) ‹_› ?_);(try simp only [Act.put,List.getElem_toArray,List.getElem_cons_zero,aW,List.setIfInBounds_toArray,aZ,List.set_cons_succ]))
     ((refine wpAnyH_take (i:=9) (oi:=_) (v:=undef) rfl (by kernel_rfl) (by kernel_rfl) (by kernel_rfl) (fun _ _ _ h=>h) (bF ⟨by rfl,rfl⟩) ‹_› ?_);(try simp only [Act.put,List.getElem_toArray,List.getElem_cons_zero,aW,List.setIfInBounds_toArray,aZ,List.set_cons_succ]))
     ((refine wpAnyH_take (i:=10) (oi:=_) (v:=?v10_52) rfl (by kernel_rfl) (by kernel_rfl) (by kernel_rfl) (fun _ _ _ h=>h) (bC ⟨by rfl,?y10_52⟩) ‹_› ?r10_52);(case y10_52=>(intro w hSw;(try dsimp only at hSw);go_simp;try (with_reducible rfl)));(try simp only [Act.put,List.getElem_toArray,List.getElem_cons_zero,aW,List.setIfInBounds_toArray,aZ,List.set_cons_succ]))
     ((refine wpAnyH_ready (rs:=[11]) (by kernel_rfl) (by simp) ?_);(refine AllReadyH.cons (o:=_) rfl (fun K hK=>?_) AllReadyH.nil);go_simp)
     refine (E0 _ _ _ (by omega)).mono ?_;rintro e u3 ⟨rfl,rfl⟩;rw [show wrap ty _=wrap ty (ED yk k) from by rw [Mh HQ.out]];refine hK.out _ _ ⟨(hu1.trans hu2).keep m0,(hu1.trans hu2).keep m1,(hu1.trans hu2).keep m2,(hu1.trans hu2).keep m3⟩ (fun hHeld=>?_);clear hK K hHeld;(try simp only [Act.put,List.getElem_toArray,List.getElem_cons_zero,aW,List.setIfInBounds_toArray,aZ,List.set_cons_succ])
     ((refine wpAnyH_take (i:=12) (oi:=_) (v:=?v12_53) rfl (by kernel_rfl) (by kernel_rfl) (by kernel_rfl) (fun _ _ _ h=>h) (bC ⟨by rfl,?y12_53⟩) ‹_› ?r12_53);(case y12_53=>(intro w hSw;(try dsimp only at hSw);go_simp;try (with_reducible rfl)));(try simp only [Act.put,List.getElem_toArray,List.getElem_cons_zero,aW,List.setIfInBounds_toArray,aZ,List.set_cons_succ]))
     (refine wpAnyH_done (by kernel_rfl) ?_ _)
     go_wp2_with fail
     go_meet
     exact ⟨rfl,dK (dK (dI _).drew hu1) hu2⟩
   . have HQ:=bA hq;clear hq
     refine wp_region_held_drew (S:=fun w'=>w'.cell? ⟨pr,0,none⟩=some (.int .u8 yk)/\w'.cell? ⟨pr,1,none⟩=some (.int .i64 yn)/\w'.cell? ⟨pr,2,none⟩=some (str ys)/\w'.cell? ⟨pr,3,none⟩=some (.slice ya yl.length yc)) (by kernel_rfl) hbr1.node (fun hHeld=>?_);obtain ⟨m0,m1,m2,m3⟩:=id hHeld
     ((refine wpAnyH_take (i:=0) (oi:=_) (v:=?v0_54) rfl (by kernel_rfl) (by kernel_rfl) (by kernel_rfl) (fun _ _ _ h=>h) (bC ⟨by rfl,?y0_54⟩) ‹_› ?r0_54);(case y0_54=>(intro w hSw;(try dsimp only at hSw);go_simp;try (with_reducible rfl)));(try simp only [Act.put,List.getElem_toArray,List.getElem_cons_zero,aW,List.setIfInBounds_toArray,aZ,List.set_cons_succ]))
     ((refine wpAnyH_take (i:=2) (oi:=_) (v:=?v2_55) rfl (by kernel_rfl) (by kernel_rfl) (by kernel_rfl) (fun _ _ _ h=>h) (bC ⟨by rfl,?y2_55⟩) ‹_› ?r2_55);(case y2_55=>(intro w hSw;(try dsimp only at hSw);go_simp;try (with_reducible rfl)));(try simp only [Act.put,List.getElem_toArray,List.getElem_cons_zero,aW,List.setIfInBounds_toArray,aZ,List.set_cons_succ]))
     ((refine wpAnyH_ready (rs:=[1]) (by kernel_rfl) (by simp) ?_);(refine AllReadyH.cons (o:=_) rfl (fun K hK=>?_) AllReadyH.nil);go_simp)
     refine (HY.out ya yc _ (hys1.ext (by refine dX ?_;exact dI _))).mono ?_;rintro e u1 ⟨rfl,hu1⟩;rw [HTy.out];refine hK.out _ _ ⟨hu1.keep m0,hu1.keep m1,hu1.keep m2,hu1.keep m3⟩ (fun hHeld=>?_);clear hK K;(try simp only [Act.put,List.getElem_toArray,List.getElem_cons_zero,aW,List.setIfInBounds_toArray,aZ,List.set_cons_succ])
     ((refine wpAnyH_ready (rs:=[3]) (by kernel_rfl) (by simp) ?_);(refine AllReadyH.cons (o:=_) rfl (fun K hK=>?_) AllReadyH.nil);go_simp)
     refine (D6 _ _ _ _ _ _ _).mono ?_;rintro e u2 ⟨rfl,hu2⟩;rw [HQ.out];refine hK.out _ _ ⟨(hu1.trans hu2).keep m0,(hu1.trans hu2).keep m1,(hu1.trans hu2).keep m2,(hu1.trans hu2).keep m3⟩ (fun hHeld=>?_);clear hK K;(try simp only [Act.put,List.getElem_toArray,List.getElem_cons_zero,aW,List.setIfInBounds_toArray,aZ,List.set_cons_succ])
     ((refine wpAnyH_take (i:=4) (oi:=_) (v:=?v4_56) rfl (by kernel_rfl) (by kernel_rfl) (by kernel_rfl) (fun _ _ _ h=>h) (bC ⟨by rfl,?y4_56⟩) ‹_› ?r4_56);(case y4_56=>(intro w hSw;(try dsimp only at hSw);go_simp;try (with_reducible rfl)));(try simp only [Act.put,List.getElem_toArray,List.getElem_cons_zero,aW,List.setIfInBounds_toArray,aZ,List.set_cons_succ]))
     have hbk:8<=yk/\yk<=23:=by have:=HQ.out;simp [Dk] at this;exact this
     obtain ⟨hbk0,hbk1⟩:=hbk
     ((refine wpAnyH_take (i:=5) (oi:=_) (v:=?v5_57) rfl (by kernel_rfl) (by kernel_rfl) (by kernel_rfl) (fun _ _ _ h=>h) (bC ⟨by rfl,?y5_57⟩) ‹_› ?r5_57);(case y5_57=>(intro w hSw;(try dsimp only at hSw);go_simp;try (with_reducible rfl)));(try simp only [Act.put,List.getElem_toArray,List.getElem_cons_zero,aW,List.setIfInBounds_toArray,aZ,List.set_cons_succ]))
     ((refine wpAnyH_take (i:=6) (oi:=_) (v:=?v6_58) rfl (by kernel_rfl) (by kernel_rfl) (by kernel_rfl) (fun _ _ _ h=>h) (bC ⟨by rfl,?y6_58⟩) ‹_› ?r6_58);(case y6_58=>(intro w hSw;(try dsimp only at hSw);go_simp;try (with_reducible rfl)));(try simp only [Act.put,List.getElem_toArray,List.getElem_cons_zero,aW,List.setIfInBounds_toArray,aZ,List.set_cons_succ]))
     ((refine wpAnyH_take (i:=8) (oi:=_) (v:=?v8_59) rfl (by kernel_rfl) (by kernel_rfl) (by kernel_rfl) (fun _ _ _ h=>h) (bC ⟨by rfl,?y8_59⟩) ‹_› ?r8_59);(case y8_59=>(intro w hSw;(try dsimp only at hSw);go_simp;try (with_reducible rfl)));(try simp only [Act.put,List.getElem_toArray,List.getElem_cons_zero,aW,List.setIfInBounds_toArray,aZ,List.set_cons_succ]))
     ((refine wpAnyH_ready (rs:=[7]) (by kernel_rfl) (by simp) ?_);(refine AllReadyH.cons (o:=_) rfl (fun K hK=>?_) AllReadyH.nil);go_simp)
     refine (Il _ _ (by omega) (by omega)).mono ?_;rintro e u' ⟨rfl,rfl⟩;refine hK.out _ _ ⟨(hu1.trans hu2).keep m0,(hu1.trans hu2).keep m1,(hu1.trans hu2).keep m2,(hu1.trans hu2).keep m3⟩ (fun hHeld=>?_);clear hK K;(try simp only [Act.put,List.getElem_toArray,List.getElem_cons_zero,aW,List.setIfInBounds_toArray,aZ,List.set_cons_succ])
     ((refine wpAnyH_take (i:=9) (oi:=_) (v:=?v9_60) rfl (by kernel_rfl) (by kernel_rfl) (by kernel_rfl) (fun _ _ _ h=>h) (bC ⟨by rfl,?y9_60⟩) ‹_› ?r9_60);(case y9_60=>(intro w hSw;(try dsimp only at hSw);go_simp;try (with_reducible rfl)));(try simp only [Act.put,List.getElem_toArray,List.getElem_cons_zero,aW,List.setIfInBounds_toArray,aZ,List.set_cons_succ]))
     ((refine wpAnyH_take (i:=10) (oi:=_) (v:=?v10_61) rfl (by kernel_rfl) (by kernel_rfl) (by kernel_rfl) (fun _ _ _ h=>h) (bC ⟨by rfl,?y10_61⟩) ‹_› ?r10_61);(case y10_61=>(intro w hSw;(try dsimp only at hSw);go_simp;try (with_reducible rfl)));(try simp only [Act.put,List.getElem_toArray,List.getElem_cons_zero,aW,List.setIfInBounds_toArray,aZ,List.set_cons_succ]))
     ((refine wpAnyH_ready (rs:=[11]) (by kernel_rfl) (by simp) ?_);(refine AllReadyH.cons (o:=_) rfl (fun K hK=>?_) AllReadyH.nil);go_simp)
     refine (E0 _ _ _ (by omega)).mono ?_;rintro e u3 ⟨rfl,rfl⟩;rw [show wrap ty _=wrap ty (ED yk k) from by rw [Mj HQ.out decide_eq_true_iff]];refine hK.out _ _ ⟨(hu1.trans hu2).keep m0,(hu1.trans hu2).keep m1,(hu1.trans hu2).keep m2,(hu1.trans hu2).keep m3⟩ (fun hHeld=>?_);clear hK K hHeld;(try simp only [Act.put,List.getElem_toArray,List.getElem_cons_zero,aW,List.setIfInBounds_toArray,aZ,List.set_cons_succ])
     ((refine wpAnyH_take (i:=12) (oi:=_) (v:=?v12_62) rfl (by kernel_rfl) (by kernel_rfl) (by kernel_rfl) (fun _ _ _ h=>h) (bC ⟨by rfl,?y12_62⟩) ‹_› ?r12_62);(case y12_62=>(intro w hSw;(try dsimp only at hSw);go_simp;try (with_reducible rfl)));(try simp only [Act.put,List.getElem_toArray,List.getElem_cons_zero,aW,List.setIfInBounds_toArray,aZ,List.set_cons_succ]))
     (refine wpAnyH_done (by kernel_rfl) ?_ _)
     go_wp2_with fail
     go_meet
     exact ⟨rfl,dK (dK (dI _).drew hu1) hu2⟩
  case rest=>
   obtain ⟨U,hU⟩ : ∃U:wD,U=wc:=⟨wc,rfl⟩;subst hU;obtain ⟨rfl,hVU⟩:=hcut;obtain ⟨c0,c1,c2,c3⟩:=((hbn.ext hWV).ext hVU).node;have w1:=GG tx (Ei xk k);have w2:=GG ty (ED yk k);have w3:=FY k
   generalize ht1:wrap tx (Ei xk k)=t1 at *
   generalize ht2:wrap ty (ED yk k)=t2 at *
   have HT1:=bA ht1;clear ht1
   have HT2:=bA ht2;clear ht2
   have z1 : ¬ 9223372036854775807<t1.length+1:=by omega
   have z2 : ¬ 9223372036854775807<t1.length+1+(BQ k).length:=by omega
   have z3 : ¬ 9223372036854775807<t1.length+1+(BQ k).length+1:=by omega
   have z4 : ¬ 9223372036854775807<t1.length+1+(BQ k).length+1+t2.length:=by omega
   go_wp2_with (go_at_call 204;refine (Fx _ _ (by omega) (by omega)).mono ?_;rintro e u4 ⟨rfl,rfl⟩)
   go_ret
   refine ⟨Hn ?_,(by refine dK ?_ ‹_›;refine dK ?_ ‹_›;assumption)⟩
   show Value.string ((⟨t1.toArray⟩:ByteArray)++⟨([32]:lB).toArray⟩++⟨(BQ k).toArray⟩++⟨([32]:lB).toArray⟩++⟨t2.toArray⟩)=_
   rw [HT1.out,HT2.out,Cu,Cu,Cu,Cu]
def Xt (S:nP) (N:Nat) : ∀t:Nd,t.size<N->t.size<=1000000000000->t.wf->t.isExpr=true->C8 S 203 dT t:=by
 induction N with
 | zero=>intro t h;omega
 | succ N L=>
  rintro ⟨k,n,s,l⟩ M O F f;simp only [Nd.wf,dL] at F M O;obtain ⟨aa,ab,ac,V,ad,ae,E⟩:=F;rw [Nd.isExpr.eq_def] at f;simp only [] at f;by_cases Z:k=1
  . subst Z;simp at f;exact Zy S n s l f.1.1 V
  rw [AE Z] at f;by_cases c2:k=2\/k=4\/k=5
  . rw [AU c2] at f;simp only [named,bB] at f;have X:=Cg f.1.2;rcases c2 with rfl|rfl|rfl
    . exact Zz S n s l
    . exact ZA S n s l Ab
    . exact ZB S n s l Ab
  rw [AE c2] at f;by_cases c3:k=3
  . rw [AU c3] at f;subst c3;rcases l with _|⟨x,_|⟨y,l⟩⟩
    . simp at f
    . simp only [named,bB] at f;have X:=Cg f.1.2;simp only [Am,A3] at M O E;have hx:=BR x E.1 f.2;exact ZC S n s x (L x Ab Ab E.1 f.2) Ab Ab
    . simp at f
  rw [AE c3] at f;by_cases Y:k=6\/k=7
  . rw [AU Y] at f;rcases l with _|⟨x,_|⟨y,l⟩⟩
    . simp at f
    . simp only [bB] at f;simp only [Am,A3] at M O E;have hx:=BR x E.1 f.2;exact YU S k n s x Y (L x Ab Ab E.1 f.2) Ab
    . simp at f
  rw [AE Y] at f;by_cases U:8<=k/\k<=23
  . rw [AU U] at f;rcases l with _|⟨x,_|⟨y,_|⟨z,l⟩⟩⟩
    . simp at f
    . simp at f
    . simp only [bB] at f;simp only [Am,A3] at M O E;have hx:=BR x E.1 f.2.1;have hy:=BR y E.2.1 f.2.2;exact Xs S k n s x y U.1 U.2 (L x Ab Ab E.1 f.2.1) (L y Ab Ab E.2.1 f.2.2) Ab Ab
    . simp at f
  . rw [AE U] at f;simp at f
def TZ (S:nP) (t:Nd) (h:t.size<=1000000000000) (f:t.wf) (E:t.isExpr=true):C8 S 203 dT t:=Xt S (t.size+1) t Ab h f E
def IT (k:Int):lB:=
 if k=44 then [112,117,115,104] else if k=45 then [112,111,112] else if k=46 then [114,101,97,100] else if k=47 then [117,110,114,101,97,100] else if k=48 then [119,114,105,116,101] else if k=49 then [117,110,119,114,105,116,101] else if k=50 then [99,97,108,108] else [117,110,99,97,108,108]
def Im (k:Int) (h:44<=k) (f:k<=51):CJ k=IT k++[32]:=by
 have:k=44\/k=45\/k=46\/k=47\/k=48\/k=49\/k=50\/k=51:=by omega
 rcases this with rfl|rfl|rfl|rfl|rfl|rfl|rfl|rfl<;>decide
def Xu (k:Int) (w:wD) (h0:0<=k) (h1:k<=255):Calls prog 205 #[.int .u8 k] w fun e w'=>e = .returned (str (IT k))/\w=w':=by
 go_enter func205,ntmps205
 go_wp2_with fail
 all_goals go_ret
 all_goals refine ⟨CS ?_,rfl⟩
 all_goals simp only [beq_iff_eq,beq_eq_false_iff_ne,ne_eq] at *
 all_goals first|(subst k;rfl)|(unfold IT;rw [AE ‹_›,AE ‹_›,AE ‹_›,AE ‹_›,AE ‹_›,AE ‹_›,AE ‹_›])
def Xv (n:Nat) (w:wD) (hn:n<=1000000):Calls prog 202 #[.int .i64 n] w fun e w'=>e = .returned (str (BX n))/\w=w':=by
 go_enter func202,ntmps202
 go_wp2_with fail
 go_loop [3,4] (fun s i=> ∃j:Nat,j<=n/\i = .int .i64 j/\s=str (BX j)) (fun _ i=>n-(intOf i).toNat)
 case atStart=>exact ⟨0,bI _,rfl,rfl⟩
 case round=>
  obtain ⟨j,hj,rfl,rfl⟩:=hrel
  have hl:(BX j).length=j:=by simp [BX]
  have HL:=bA hl
  have hz : ¬ 9223372036854775807<(BX j).length+1:=by omega
  clear hl
  by_cases hlt:j<n
  . go_wp2_with fail
    go_round
    case rel=>exact ⟨j+1,by omega,by go_num,by
     show Value.string ((⟨(BX j).toArray⟩:ByteArray)++⟨([9]:lB).toArray⟩)=_
     rw [Cu];simp [BX,List.replicate_succ']⟩
    case measure=>simp [intOf];omega
  . go_wp2_with fail
    go_ret
    have:j=n:=by omega
    subst this
    exact ⟨rfl,rfl⟩
attribute [local irreducible] Go.Calls
def TD (S:nP) (t:Nd):Prop:= ∀(a:oA) (c d:Nat) (w:wD),d+t.size<=1000000->(t.stmtT d).length<=1000000000000000->t.sits S w a ->
 Calls prog 154 #[t.val a c,.int .i64 d] w fun e w'=>e = .returned (str (BX d++t.stmtT d++[59,10]))/\Ext w w'
def LD (S:nP) (t:Nd):Prop:= ∀(a:oA) (c d:Nat) (w:wD),d+t.size<=1000000->(t.linesT d).length<=1000000000000000->t.sits S w a ->
 Calls prog 108 #[t.val a c,.int .i64 d] w fun e w'=>e = .returned (str (t.linesT d))/\Ext w w'
def E9 (n:Nat) (w:wD) (f:n<=1000000):Calls prog 202 #[.int .i64 n] w fun e w'=>e = .returned (str (BX n))/\Ext w w':=
 (Xv n w f).mono fun _ _ ⟨h1,h2⟩=>⟨h1,h2▸dI _⟩
def OF (k:Int) (w:wD) (f:0<=k) (h1:k<=255):Calls prog 205 #[.int .u8 k] w fun e w'=>e = .returned (str (IT k))/\Ext w w':=
 (Xu k w f h1).mono fun _ _ ⟨h1,h2⟩=>⟨h1,h2▸dI _⟩
def OG (k:Int) (w:wD) (f:0<=k) (h1:k<=255):Calls prog 204 #[.int .u8 k] w fun e w'=>e = .returned (str (BQ k))/\Ext w w':=
 (Fx k w f h1).mono fun _ _ ⟨h1,h2⟩=>⟨h1,h2▸dI _⟩
def Kn (k:Int):(IT k).length<=10:=by
 unfold IT
 repeat' split
 all_goals decide
def RB (S:nP) (k:Int) (n:Int) (hk:k=40\/k=41\/k=42) (s:lB) (x y:Nd) (hx:C8 S 203 dT x) (hy:C8 S 203 dT y):TD S (.mk k n s [x,y]):=by
 intro a c d w hd U hs;have X:=dI w;have V:(Nd.mk k n s [x,y]).stmtT d=x.text++([32]++(BQ k++([32]++y.text))):=by
  rw [Nd.stmtT.eq_def];rcases hk with rfl|rfl|rfl<;>simp [EM]
 rw [V] at U ⊢;clear V;simp only [aU,aV,aX] at U;simp only [dW,dM,dU,dO,dN];simp only [dY] at hs;simp only [dL,Am] at hd;obtain ⟨kb,ko,rfl,-,O⟩:=Ba hs Bd;obtain ⟨xa,xc,E,L⟩:=O 0 x rfl;obtain ⟨ya,yc,F,M⟩:=O 1 y rfl;clear O hs;have aq:(BX d).length=d:=Dh d;have ar:=FY k;have HX:=bA (fun Y h=>hx xa xc Y h);have HY:=bA (fun Y h=>hy ya yc Y h);clear hx hy;generalize x.text=tx at *;generalize y.text=ty at *;have HT:=bA (fun Y=>E9 d Y Ab);generalize BX d=td at *;obtain ⟨xk,xn,xs,xl⟩:=x;obtain ⟨yk,yn,ys,yl⟩:=y;simp only [dM,dU,dO,dN,dW,eR] at E F HX HY;refine Af func154 ntmps154 rfl rfl ?_;refine cS (eB [_,_,_,_] ?_);intro b1 w2 N x5 p6 z7;revert X E L F M;refine eE x5 ?_;intro X E L F M;refine eK ?_;refine cC rfl (HT.out _) ?_;rintro _ w9 ⟨⟨⟩,x8⟩;revert N X E L F M;refine eY x8 ?_;intro au N X E L F M;refine C1 Pa (cT (Aj (cS (C1 Pg (C1 (Pl N) (cT ?_))))));refine Ar ?_;refine Fu (ι:=Unit) (fun _=>[(2,.pointer (some ⟨b1,0,none⟩)),(5,str td),(11,.int .u8 k),(12,.bool true)]) (fun _ w'=>w'=w9) ?_ ?_
 . focus
    refine eK ?_;refine AH rfl (fun af=>?_) (fun af=>?_);refine As ?_;rotate_left;refine eK ?_;refine AH rfl (fun ag=>?_) (fun ag=>?_);refine As ?_;rotate_left;refine Ad (C1 V1 (C1 Pa (Ah ?_)));rotate_left
   all_goals exact BL () (Ak rfl (Ak rfl (Ak rfl (AW rfl (congrArg dF (decide_eq_true Ab)) AY)))) rfl
 rintro-u1 rfl;refine eK ?_;refine AC (fun Z=>Ext u1 Z) 18 (.pure 0 (.pure 1 (.pure 2 (.pure 3 (.pure 4 (.pure 8 (.pure 9 (.pure 13 (.pure 14 (.pure 15 (.pure 16 (.fork 5 (.pure 6 (.pure 7 (.fork 10 (.pure 11 (.pure 12 (.fork 17 .tail .none))) .none))) .none)))))))))))) mixed Bl (Aa (Al (Aa An))) ?_;intro ah aa _;have f:(fun Z=>Ext u1 Z) ah:=aa;simp only at f;have aj:=N;have ab:=E;have ak:=L;have ac:=F;have al:=M;revert N X E L F M;refine eY aa ?_;intro av N X E L F M;refine ⟨f,?_⟩;refine eT ?_;refine Tq rfl (Ay Ac rfl rfl rfl rfl Ab (by simp only [aV,aX];omega)) (Tq rfl (Br [_,_,_,_] Ac rfl rfl rfl (fun Z hz=>(dZ ab hz)) rfl rfl) ?_);refine eT ?_;refine Tq rfl (Ay Ac rfl rfl rfl rfl Ab (by simp only [aV,aX];omega)) (Tq rfl (A6 Ac rfl rfl rfl (fun Z hz=>(dZ ac hz)) rfl) ?_);refine tC rfl rfl (HX.out _ Ag) ?_;rintro _ aw ⟨⟨⟩,ai⟩;revert f N X E L F M;refine eY ai ?_;intro ax f N X E L F M;refine ⟨f,?_⟩;refine Tq rfl (At rfl rfl Ab) (Tq rfl (At rfl rfl (by simp only [aU,aV,aX];omega)) ?_);refine tC rfl rfl (OG k _ Ab Ab) ?_;rintro _ am ⟨⟨⟩,ad⟩;revert f N X E L F M;refine eY ad ?_;intro an f N X E L F M;refine ⟨f,?_⟩;refine Tq rfl (At rfl rfl (by simp only [aU,aV,aX];omega)) (Tq rfl (At rfl rfl (by simp only [aU,aV,aX];omega)) ?_);refine tC rfl rfl (HY.out _ Ag) ?_;rintro _ ao ⟨⟨⟩,ae⟩;revert f N X E L F M;refine eY ae ?_;intro ap f N X E L F M;refine ⟨f,?_⟩;refine AF rfl (C1 (At rfl rfl (by simp only [aU,aV,aX];omega)) (C1 (At rfl rfl (by simp only [aU,aV,aX];omega)) ?_));refine eK ?_;refine xR ?_
 all_goals exact ⟨CS Bd,X⟩
def ZD (S:nP) (n:Int) (s:lB) (x y:Nd) (hx:C8 S 203 dT x) (hy:C8 S 203 dT y):TD S (.mk 56 n s [x,y]):=by
 intro a c d w hd U hs;have X:=dI w;have V:(Nd.mk 56 n s [x,y]).stmtT d=x.text++([32,58,61,32]++y.text):=by
  rw [Nd.stmtT.eq_def];simp [EM]
 rw [V] at U ⊢;clear V;simp only [aU,aV,aX] at U;simp only [dW,dM,dU,dO,dN];simp only [dY] at hs;simp only [dL,Am] at hd;obtain ⟨kb,ko,rfl,-,L⟩:=Ba hs Bd;obtain ⟨xa,xc,E,M⟩:=L 0 x rfl;obtain ⟨ya,yc,F,N⟩:=L 1 y rfl;clear L hs;have aj:(BX d).length=d:=Dh d;have HX:=bA (fun Y h=>hx xa xc Y h);have HY:=bA (fun Y h=>hy ya yc Y h);clear hx hy;generalize x.text=tx at *;generalize y.text=ty at *;have HT:=bA (fun Y=>E9 d Y Ab);generalize BX d=td at *;obtain ⟨xk,xn,xs,xl⟩:=x;obtain ⟨yk,yn,ys,yl⟩:=y;simp only [dM,dU,dO,dN,dW,eR] at E F HX HY;refine Af func154 ntmps154 rfl rfl ?_;refine cS (eB [_,_,_,_] ?_);intro b1 w2 O x5 p6 z7;revert X E M F N;refine eE x5 ?_;intro X E M F N;refine eK ?_;refine cC rfl (HT.out _) ?_;rintro _ w9 ⟨⟨⟩,x8⟩;revert O X E M F N;refine eY x8 ?_;intro ak O X E M F N;refine eK ?_;refine AC (fun Z=>Ext w9 Z) 13 (.pure 0 (.pure 1 (.pure 2 (.pure 3 (.pure 4 (.pure 8 (.pure 9 (.pure 10 (.pure 11 (.fork 5 (.pure 6 (.pure 7 (.fork 12 .tail .none))) .none)))))))))) mixed Bl (Aa (Al (Aa An))) ?_;intro af aa _;have f:(fun Z=>Ext w9 Z) af:=aa;simp only at f;have ab:=O;have ac:=E;have ah:=M;have ad:=F;have ai:=N;revert O X E M F N;refine eY aa ?_;intro al O X E M F N;refine ⟨f,?_⟩;refine eT ?_;refine Tq rfl (Ay Ac rfl rfl rfl rfl Ab (by simp only [aV,aX];omega)) (Tq rfl (Br [_,_,_,_] Ac rfl rfl rfl (fun Z hz=>(dZ ac hz)) rfl rfl) (Tq rfl Pf (Tq rfl (Db ab) (Tq rfl (Ay Ac rfl rfl rfl rfl Ab (by simp only [aV,aX];omega)) (Tq rfl (A6 Ac rfl rfl rfl (fun Z hz=>(dZ ad hz)) rfl) ?_)))));refine tC rfl rfl (HX.out _ Ag) ?_;rintro _ am ⟨⟨⟩,ae⟩;have an:=ae.size
 revert f O X E M F N;refine eE ae ?_;intro f O X E M F N;refine ⟨f,?_⟩;refine Tq rfl (At rfl rfl Ab) (Tq rfl (At rfl rfl (by simp only [aU,aV,aX];omega)) ?_);refine tC rfl rfl (HY.out _ Ag) ?_;rintro _ ao ⟨⟨⟩,ag⟩;revert f O X E M F N;refine eY ag ?_;intro z22 f O X E M F N;refine ⟨f,?_⟩;refine AF rfl (C1 (At rfl rfl (by simp only [aU,aV,aX];omega)) (C1 (At rfl rfl (by simp only [aU,aV,aX];omega)) ?_));refine eK ?_;refine xR ?_;all_goals exact ⟨CS Bd,X⟩
def ZE (S:nP) (n:Int) (s:lB) (x y:Nd) (hx:C8 S 203 dT x) (hy:C8 S 203 dT y):TD S (.mk 43 n s [x,y]):=by
 intro a c d w hd U hs;have X:=dI w;have V:(Nd.mk 43 n s [x,y]).stmtT d=x.text++([32,60,61,62,32]++y.text):=by
  rw [Nd.stmtT.eq_def];simp [EM]
 rw [V] at U ⊢;clear V;simp only [aU,aV,aX] at U;simp only [dW,dM,dU,dO,dN];simp only [dY] at hs;simp only [dL,Am] at hd;obtain ⟨kb,ko,rfl,-,L⟩:=Ba hs Bd;obtain ⟨xa,xc,E,M⟩:=L 0 x rfl;obtain ⟨ya,yc,F,N⟩:=L 1 y rfl;clear L hs;have aj:(BX d).length=d:=Dh d;have HX:=bA (fun Y h=>hx xa xc Y h);have HY:=bA (fun Y h=>hy ya yc Y h);clear hx hy;generalize x.text=tx at *;generalize y.text=ty at *;have HT:=bA (fun Y=>E9 d Y Ab);generalize BX d=td at *;obtain ⟨xk,xn,xs,xl⟩:=x;obtain ⟨yk,yn,ys,yl⟩:=y;simp only [dM,dU,dO,dN,dW,eR] at E F HX HY;refine Af func154 ntmps154 rfl rfl ?_;refine cS (eB [_,_,_,_] ?_);intro b1 w2 O x5 p6 z7;revert X E M F N;refine eE x5 ?_;intro X E M F N;refine eK ?_;refine cC rfl (HT.out _) ?_;rintro _ w9 ⟨⟨⟩,x8⟩;revert O X E M F N;refine eY x8 ?_;intro ak O X E M F N;refine eK ?_;refine AC (fun Z=>Ext w9 Z) 13 (.pure 0 (.pure 1 (.pure 2 (.pure 3 (.pure 4 (.pure 8 (.pure 9 (.pure 10 (.pure 11 (.fork 5 (.pure 6 (.pure 7 (.fork 12 .tail .none))) .none)))))))))) mixed Bl (Aa (Al (Aa An))) ?_;intro af aa _;have f:(fun Z=>Ext w9 Z) af:=aa;simp only at f;have ab:=O;have ac:=E;have ah:=M;have ad:=F;have ai:=N;revert O X E M F N;refine eY aa ?_;intro al O X E M F N;refine ⟨f,?_⟩;refine eT ?_;refine Tq rfl (Ay Ac rfl rfl rfl rfl Ab (by simp only [aV,aX];omega)) (Tq rfl (Br [_,_,_,_] Ac rfl rfl rfl (fun Z hz=>(dZ ac hz)) rfl rfl) (Tq rfl Pf (Tq rfl (Db ab) (Tq rfl (Ay Ac rfl rfl rfl rfl Ab (by simp only [aV,aX];omega)) (Tq rfl (A6 Ac rfl rfl rfl (fun Z hz=>(dZ ad hz)) rfl) ?_)))));refine tC rfl rfl (HX.out _ Ag) ?_;rintro _ am ⟨⟨⟩,ae⟩;have an:=ae.size
 revert f O X E M F N;refine eE ae ?_;intro f O X E M F N;refine ⟨f,?_⟩;refine Tq rfl (At rfl rfl Ab) (Tq rfl (At rfl rfl (by simp only [aU,aV,aX];omega)) ?_);refine tC rfl rfl (HY.out _ Ag) ?_;rintro _ ao ⟨⟨⟩,ag⟩;revert f O X E M F N;refine eY ag ?_;intro z22 f O X E M F N;refine ⟨f,?_⟩;refine AF rfl (C1 (At rfl rfl (by simp only [aU,aV,aX];omega)) (C1 (At rfl rfl (by simp only [aU,aV,aX];omega)) ?_));refine eK ?_;refine xR ?_;all_goals exact ⟨CS Bd,X⟩
def Yg (S:nP) (k:Int) (n:Int) (hk:k=44\/k=45) (s:lB) (x:Nd) (hx:C8 S 203 dT x):TD S (.mk k n s [x]):=by
 intro a c d w hd M hs;have X:=dI w;have O:(Nd.mk k n s [x]).stmtT d=IT k++([32]++(x.text++([44,32]++s))):=by
  rw [Nd.stmtT.eq_def];have aa:=Im k Ab Ab;simp only;rw [AE Ab,AU Ab,aa];simp
 rw [O] at M ⊢;clear O;simp only [aU,aV,aX] at M;simp only [dW,dM,dU,dO,dN];simp only [dY] at hs;simp only [dL,Am] at hd;obtain ⟨kb,ko,rfl,-,N⟩:=Ba hs Bd;obtain ⟨xa,xc,E,F⟩:=N 0 x rfl;clear N hs;have ah:(BX d).length=d:=Dh d;have ai:=Kn k;have HX:=bA (fun w1 h=>hx xa xc w1 h);clear hx;generalize x.text=tx at *;have HT:=bA (fun w1=>E9 d w1 Ab);generalize BX d=td at *;obtain ⟨xk,xn,xs,xl⟩:=x;simp only [dM,dU,dO,dN,dW,eR] at E HX;refine Af func154 ntmps154 rfl rfl ?_;refine cS (eB [_,_,_,_] ?_);intro b1 w2 L x5 p6 z7;revert X E F;refine eE x5 ?_;intro X E F;refine eK ?_;refine cC rfl (HT.out _) ?_;rintro _ w9 ⟨⟨⟩,x8⟩;revert L X E F;refine eY x8 ?_;intro aj L X E F;refine C1 Pa (cT (Aj (cS (C1 Pg (C1 (Pl L) (cT ?_))))));refine Ar ?_;refine Aj (cS (C1 V1 (C1 Pa (cT (C9 (cS (C1 V1 (C1 Pa (cT (C9 (Ad ?_)))))))))));refine C1 V1 (C1 Pa (cT (C9 (cS (C1 V1 (C1 Pa (cT (C9 (cS (C1 V1 (C1 Pa ?_)))))))))));refine cT (C9 (Aj ?_));refine GH (ι:=Unit) (fun _=>[(2,.pointer (some ⟨b1,0,none⟩)),(5,str td),(11,.int .u8 k),(70,.bool true)]) (fun _ w'=>w'=w9) ?_ ?_
 . focus
    refine eK ?_;refine AH rfl (fun ab=>?_) (fun ab=>?_);refine As ?_;rotate_left;refine Ad (C1 V1 (C1 Pa (Ah ?_)));rotate_left
   all_goals exact BL () (Ak rfl (Ak rfl (Ak rfl (AW rfl (congrArg dF (decide_eq_true Ab)) AY)))) rfl
 rintro-u1 rfl;refine eK ?_;refine AC (fun wz=>Ext u1 wz) 15 (.pure 0 (.pure 1 (.pure 2 (.pure 6 (.pure 7 (.pure 8 (.pure 9 (.pure 13 (.pure 14 (.fork 3 (.pure 4 (.pure 5 (.fork 10 (.pure 11 (.pure 12 .tail)) .none))) .none)))))))))) mixed Bl (Aa (Al (Aa An))) ?_;intro ac U _;have f:(fun wz=>Ext u1 wz) ac:=U;simp only at f;have V:=L;have Y:=E;have ae:=F;revert L X E F;refine eY U ?_;intro ak L X E F;refine ⟨f,?_⟩;refine eT ?_;refine Tq rfl (Ay Ac rfl rfl rfl rfl Ab (by simp only [aV,aX];omega)) (Tq rfl (Br [_,_,_,_] Ac rfl rfl rfl (fun wz hz=>(dZ Y hz)) rfl rfl) (Tq rfl Pf (Tq rfl (Db V) ?_)));refine tC rfl rfl (OF k _ Ab Ab) ?_;rintro _ al ⟨⟨⟩,ad⟩;revert f L X E F;refine eY ad ?_;intro am f L X E F;refine ⟨f,?_⟩;refine Tq rfl (At rfl rfl Ab) (Tq rfl (At rfl rfl (by simp only [aU,aV,aX];omega)) ?_);refine tC rfl rfl (HX.out _ Ag) ?_;rintro _ af ⟨⟨⟩,Z⟩;revert f L X E F;refine eY Z ?_;intro ag f L X E F;refine ⟨f,?_⟩;refine Tq rfl (At rfl rfl (by simp only [aU,aV,aX];omega)) (Tq rfl (At rfl rfl (by simp only [aU,aV,aX];omega)) ?_);refine AF rfl (C1 (At rfl rfl (by simp only [aU,aV,aX];omega)) (C1 (At rfl rfl (by simp only [aU,aV,aX];omega)) ?_));refine eK ?_;refine xR ?_
 all_goals exact ⟨CS Bd,X⟩
def SB (S:nP) (k:Int) (n:Int) (hk:46<=k/\k<=49) (s:lB) (x:Nd) (hx:C8 S 203 dT x):TD S (.mk k n s [x]):=by
 intro a c d w hd M hs;have X:=dI w;have O:(Nd.mk k n s [x]).stmtT d=IT k++([32]++x.text):=by
  rw [Nd.stmtT.eq_def];have aa:=Im k Ab Ab;simp only;rw [AE Ab,AE Ab,AU Ab,aa];simp
 rw [O] at M ⊢;clear O;simp only [aU,aV,aX] at M;simp only [dW,dM,dU,dO,dN];simp only [dY] at hs;simp only [dL,Am] at hd;obtain ⟨kb,ko,rfl,-,N⟩:=Ba hs Bd;obtain ⟨xa,xc,E,F⟩:=N 0 x rfl;clear N hs;have ak:(BX d).length=d:=Dh d;have al:=Kn k;have HX:=bA (fun w1 h=>hx xa xc w1 h);clear hx;generalize x.text=tx at *;have HT:=bA (fun w1=>E9 d w1 Ab);generalize BX d=td at *;obtain ⟨xk,xn,xs,xl⟩:=x;simp only [dM,dU,dO,dN,dW,eR] at E HX;refine Af func154 ntmps154 rfl rfl ?_;refine cS (eB [_,_,_,_] ?_);intro b1 w2 L x5 p6 z7;revert X E F;refine eE x5 ?_;intro X E F;refine eK ?_;refine cC rfl (HT.out _) ?_;rintro _ w9 ⟨⟨⟩,x8⟩;revert L X E F;refine eY x8 ?_;intro am L X E F;refine C1 Pa (cT (Aj (cS (C1 Pg (C1 (Pl L) (cT ?_))))));refine Ar ?_;refine Aj (cS (C1 V1 (C1 Pa (cT (C9 (cS (C1 V1 (C1 Pa (cT (C9 (Ad ?_)))))))))));refine C1 V1 (C1 Pa (cT (C9 (cS (C1 V1 (C1 Pa (cT (C9 (cS (C1 V1 (C1 Pa ?_)))))))))));refine cT (C9 (Aj (cS (C1 V1 (C1 Pa (cT (C9 (Ad (C1 V1 (C1 Pa (cT ?_)))))))))));refine C9 (Aj ?_);refine GH (ι:=Unit) (fun _=>[(2,.pointer (some ⟨b1,0,none⟩)),(5,str td),(11,.int .u8 k),(90,.bool true)]) (fun _ w'=>w'=w9) ?_ ?_
 . focus
    refine eK ?_;refine AH rfl (fun ab=>?_) (fun ab=>?_);refine As ?_;rotate_left;refine eK ?_;refine AH rfl (fun ac=>?_) (fun ac=>?_);refine As ?_;rotate_left;refine eK ?_;refine AH rfl (fun ad=>?_) (fun ad=>?_);refine As ?_;rotate_left;refine Ad (C1 V1 (C1 Pa (Ah ?_)));rotate_left
   all_goals exact BL () (Ak rfl (Ak rfl (Ak rfl (AW rfl (congrArg dF (decide_eq_true Ab)) AY)))) rfl
 rintro-u1 rfl;refine eK ?_;refine AC (fun Z=>Ext u1 Z) 11 (.pure 0 (.pure 1 (.pure 2 (.pure 6 (.pure 7 (.pure 8 (.pure 9 (.fork 3 (.pure 4 (.pure 5 (.fork 10 .tail .none))) .none)))))))) mixed Bl (Aa (Al (Aa An))) ?_;intro ae U _;have f:(fun Z=>Ext u1 Z) ae:=U;simp only at f;have ag:=L;have V:=E;have ah:=F;revert L X E F;refine eY U ?_;intro an L X E F;refine ⟨f,?_⟩;refine eT ?_;refine Tq rfl (Ay Ac rfl rfl rfl rfl Ab (by simp only [aV,aX];omega)) (Tq rfl (Br [_,_,_,_] Ac rfl rfl rfl (fun Z hz=>(dZ V hz)) rfl rfl) ?_);refine tC rfl rfl (OF k _ Ab Ab) ?_;rintro _ ao ⟨⟨⟩,af⟩;revert f L X E F;refine eY af ?_;intro ap f L X E F;refine ⟨f,?_⟩;refine Tq rfl (At rfl rfl Ab) (Tq rfl (At rfl rfl (by simp only [aU,aV,aX];omega)) ?_);refine tC rfl rfl (HX.out _ Ag) ?_;rintro _ ai ⟨⟨⟩,Y⟩;revert f L X E F;refine eY Y ?_;intro aj f L X E F;refine ⟨f,?_⟩;refine AF rfl (C1 (At rfl rfl (by simp only [aU,aV,aX];omega)) (C1 (At rfl rfl (by simp only [aU,aV,aX];omega)) ?_));refine eK ?_;refine xR ?_;all_goals exact ⟨CS Bd,X⟩
def ZF (S:nP) (n:Int) (s:lB) (x y z u:Nd) (hx:C8 S 203 dT x) (hy:LD S y) (hz:LD S z) (hu:C8 S 203 dT u):TD S (.mk 52 n s [x,y,z,u]):=by
 intro a c d w hd aa hs;have X:=dI w;have ac:(Nd.mk 52 n s [x,y,z,u]).stmtT d=[105,102,32]++(x.text++([32,123,10]++(y.linesT (d+1)++(BX d++([125,32,101,108,115,101,32,123,10]++(z.linesT (d+1)++(BX d++([125,32,102,105,32]++u.text)))))))):=by
  rw [Nd.stmtT.eq_def];simp [CJ,cF]
 rw [ac] at aa ⊢;clear ac;simp only [aU,aV,aX] at aa;simp only [dW,dM,dU,dO,dN];simp only [dY] at hs;simp only [dL,Am] at hd;obtain ⟨kb,ko,rfl,-,E⟩:=Ba hs Bd;obtain ⟨xa,xc,L,U⟩:=E 0 x rfl;obtain ⟨ya,yc,M,V⟩:=E 1 y rfl;obtain ⟨za,zc,N,sz⟩:=E 2 z rfl;obtain ⟨ua,uc,O,Y⟩:=E 3 u rfl;clear E hs;have ar:(BX d).length=d:=Dh d;have HX:=bA (fun F h=>hx xa xc F h);have HY:Hid (∀F,y.sits S F ya->Calls prog 108 #[y.val ya yc,.int .i64 ((d:Int)+1)] F fun e w'=>e = .returned (str (y.linesT (d+1)))/\Ext F w'):=bA fun F h=>hy ya yc (d+1) F Ab Ab h
 have HZ:Hid (∀F,z.sits S F za->Calls prog 108 #[z.val za zc,.int .i64 ((d:Int)+1)] F fun e w'=>e = .returned (str (z.linesT (d+1)))/\Ext F w'):=bA fun F h=>hz za zc (d+1) F Ab Ab h
 have HU:=bA (fun F h=>hu ua uc F h);clear hx hy hz hu;generalize x.text=tx at *;generalize y.linesT (d+1)=ty at *;generalize z.linesT (d+1)=tz at *;generalize u.text=tu at *;have HT:=bA (fun F=>E9 d F Ab);generalize BX d=td at *;obtain ⟨xk,xn,xs,xl⟩:=x;obtain ⟨yk,yn,ys,yl⟩:=y;obtain ⟨zk,zn,zs,zl⟩:=z;obtain ⟨uk,un,us,ul⟩:=u;simp only [dM,dU,dO,dN,dW,eR] at L M N O HX HY HZ HU;refine Af func154 ntmps154 rfl rfl ?_;refine cS (eB [_,_,_,_] ?_);intro b1 w2 Z x5 p6 z7;revert X L U M V N sz O Y;refine eE x5 ?_;intro X L U M V N sz O Y;refine eK ?_;refine cC rfl (HT.out _) ?_;rintro _ w9 ⟨⟨⟩,x8⟩;revert Z X L U M V N sz O Y;refine eY x8 ?_;intro au Z X L U M V N sz O Y;refine eK ?_;refine AC (fun wz=>Ext w9 wz) 36 (.pure 0 (.pure 1 (.pure 2 (.pure 3 (.pure 4 (.pure 5 (.pure 9 (.pure 10 (.pure 11 (.pure 12 (.pure 13 (.pure 14 (.pure 17 (.pure 20 (.pure 21 (.pure 22 (.pure 23 (.pure 24 (.pure 25 (.pure 28 (.pure 31 (.pure 32 (.pure 33 (.pure 34 (.fork 6 (.pure 7 (.pure 8 (.fork 15 (.pure 16 (.pure 18 (.pure 19 (.fork 26 (.pure 27 (.pure 29 (.pure 30 (.fork 35 .tail .none)))) .none)))) .none))) .none))))))))))))))))))))))))) mixed Bl (Aa (Al (Aa An))) ?_;intro ai ad _;have f:(fun wz=>Ext w9 wz) ai:=ad;simp only at f;have ab:=Z;have ae:=L;have an:=U;have af:=M;have ao:=V;have ag:=N;have ap:=sz;have ah:=O;have aq:=Y;revert Z X L U M V N sz O Y;refine eY ad ?_;intro av Z X L U M V N sz O Y;refine ⟨f,?_⟩;refine Tq rfl Mv (Tq rfl (At rfl rfl (by simp only [aV,aX];omega)) (Tq rfl Pf (Tq rfl (Db ab) (Tq rfl (Ay Ac rfl rfl rfl rfl Ab (by simp only [aV,aX];omega)) (Tq rfl (Br [_,_,_,_] Ac rfl rfl rfl (fun wz hz=>(dZ ae hz)) rfl rfl) (Tq rfl Pf (Tq rfl (Db ab) (Tq rfl (Ay Ac rfl rfl rfl rfl Ab (by simp only [aV,aX];omega)) (Tq rfl (A6 Ac rfl rfl rfl (fun wz hz=>(dZ af hz)) rfl) ?_)))))))))
 refine eT ?_;refine Tq rfl (Ay Ac rfl rfl rfl rfl Ab (by simp only [aV,aX];omega)) (Tq rfl (A6 Ac rfl rfl rfl (fun wz hz=>(dZ ag hz)) rfl) ?_);refine eT ?_;refine Tq rfl (Ay Ac rfl rfl rfl rfl Ab (by simp only [aV,aX];omega)) (Tq rfl (A6 Ac rfl rfl rfl (fun wz hz=>(dZ ah hz)) rfl) ?_);refine tC rfl rfl (HX.out _ Ag) ?_;rintro _ aw ⟨⟨⟩,aj⟩;revert f Z X L U M V N sz O Y;refine eY aj ?_;intro ax f Z X L U M V N sz O Y;refine ⟨f,?_⟩;refine Tq rfl (At rfl rfl (by simp only [aU,aV,aX];omega)) (Tq rfl (At rfl rfl (by simp only [aU,aV,aX];omega)) ?_);refine tC rfl rfl (HY.out _ Ag) ?_;rintro _ ay ⟨⟨⟩,ak⟩;revert f Z X L U M V N sz O Y;refine eY ak ?_;intro z22 f Z X L U M V N sz O Y;refine ⟨f,?_⟩;refine Tq rfl (At rfl rfl (by simp only [aU,aV,aX];omega)) (Tq rfl (At rfl rfl (by simp only [aU,aV,aX];omega)) (Tq rfl (At rfl rfl (by simp only [aU,aV,aX];omega)) ?_));refine tC rfl rfl (HZ.out _ Ag) ?_;rintro _ az ⟨⟨⟩,al⟩;revert f Z X L U M V N sz O Y;refine eY al ?_;intro a0 f Z X L U M V N sz O Y;refine ⟨f,?_⟩;refine Tq rfl (At rfl rfl (by simp only [aU,aV,aX];omega)) (Tq rfl (At rfl rfl (by simp only [aU,aV,aX];omega)) (Tq rfl (At rfl rfl (by simp only [aU,aV,aX];omega)) ?_));refine tC rfl rfl (HU.out _ Ag) ?_;rintro _ a1 ⟨⟨⟩,am⟩;revert f Z X L U M V N sz O Y;refine eY am ?_;intro a2 f Z X L U M V N sz O Y;refine ⟨f,?_⟩;refine AF rfl (C1 (At rfl rfl (by simp only [aU,aV,aX];omega)) (C1 (At rfl rfl (by simp only [aU,aV,aX];omega)) ?_));refine eK ?_;refine xR ?_
 all_goals exact ⟨CS Bd,X⟩
def ZG (S:nP) (n:Int) (s:lB) (x y z u:Nd) (hx:C8 S 203 dT x) (hy:LD S y) (hz:LD S z) (hu:C8 S 203 dT u):TD S (.mk 53 n s [x,y,z,u]):=by
 intro a c d w hd aa hs;have X:=dI w;have ac:(Nd.mk 53 n s [x,y,z,u]).stmtT d=[102,114,111,109,32]++(x.text++([32,123,10]++(y.linesT (d+1)++(BX d++([125,32,108,111,111,112,32,123,10]++(z.linesT (d+1)++(BX d++([125,32,117,110,116,105,108,32]++u.text)))))))):=by
  rw [Nd.stmtT.eq_def];simp [CJ,cF]
 rw [ac] at aa ⊢;clear ac;simp only [aU,aV,aX] at aa;simp only [dW,dM,dU,dO,dN];simp only [dY] at hs;simp only [dL,Am] at hd;obtain ⟨kb,ko,rfl,-,E⟩:=Ba hs Bd;obtain ⟨xa,xc,L,U⟩:=E 0 x rfl;obtain ⟨ya,yc,M,V⟩:=E 1 y rfl;obtain ⟨za,zc,N,sz⟩:=E 2 z rfl;obtain ⟨ua,uc,O,Y⟩:=E 3 u rfl;clear E hs;have ar:(BX d).length=d:=Dh d;have HX:=bA (fun F h=>hx xa xc F h);have HY:Hid (∀F,y.sits S F ya->Calls prog 108 #[y.val ya yc,.int .i64 ((d:Int)+1)] F fun e w'=>e = .returned (str (y.linesT (d+1)))/\Ext F w'):=bA fun F h=>hy ya yc (d+1) F Ab Ab h
 have HZ:Hid (∀F,z.sits S F za->Calls prog 108 #[z.val za zc,.int .i64 ((d:Int)+1)] F fun e w'=>e = .returned (str (z.linesT (d+1)))/\Ext F w'):=bA fun F h=>hz za zc (d+1) F Ab Ab h
 have HU:=bA (fun F h=>hu ua uc F h);clear hx hy hz hu;generalize x.text=tx at *;generalize y.linesT (d+1)=ty at *;generalize z.linesT (d+1)=tz at *;generalize u.text=tu at *;have HT:=bA (fun F=>E9 d F Ab);generalize BX d=td at *;obtain ⟨xk,xn,xs,xl⟩:=x;obtain ⟨yk,yn,ys,yl⟩:=y;obtain ⟨zk,zn,zs,zl⟩:=z;obtain ⟨uk,un,us,ul⟩:=u;simp only [dM,dU,dO,dN,dW,eR] at L M N O HX HY HZ HU;refine Af func154 ntmps154 rfl rfl ?_;refine cS (eB [_,_,_,_] ?_);intro b1 w2 Z x5 p6 z7;revert X L U M V N sz O Y;refine eE x5 ?_;intro X L U M V N sz O Y;refine eK ?_;refine cC rfl (HT.out _) ?_;rintro _ w9 ⟨⟨⟩,x8⟩;revert Z X L U M V N sz O Y;refine eY x8 ?_;intro au Z X L U M V N sz O Y;refine eK ?_;refine AC (fun wz=>Ext w9 wz) 36 (.pure 0 (.pure 1 (.pure 2 (.pure 3 (.pure 4 (.pure 5 (.pure 9 (.pure 10 (.pure 11 (.pure 12 (.pure 13 (.pure 14 (.pure 17 (.pure 20 (.pure 21 (.pure 22 (.pure 23 (.pure 24 (.pure 25 (.pure 28 (.pure 31 (.pure 32 (.pure 33 (.pure 34 (.fork 6 (.pure 7 (.pure 8 (.fork 15 (.pure 16 (.pure 18 (.pure 19 (.fork 26 (.pure 27 (.pure 29 (.pure 30 (.fork 35 .tail .none)))) .none)))) .none))) .none))))))))))))))))))))))))) mixed Bl (Aa (Al (Aa An))) ?_;intro ai ad _;have f:(fun wz=>Ext w9 wz) ai:=ad;simp only at f;have ab:=Z;have ae:=L;have an:=U;have af:=M;have ao:=V;have ag:=N;have ap:=sz;have ah:=O;have aq:=Y;revert Z X L U M V N sz O Y;refine eY ad ?_;intro av Z X L U M V N sz O Y;refine ⟨f,?_⟩;refine Tq rfl Mv (Tq rfl (At rfl rfl (by simp only [aV,aX];omega)) (Tq rfl Pf (Tq rfl (Db ab) (Tq rfl (Ay Ac rfl rfl rfl rfl Ab (by simp only [aV,aX];omega)) (Tq rfl (Br [_,_,_,_] Ac rfl rfl rfl (fun wz hz=>(dZ ae hz)) rfl rfl) (Tq rfl Pf (Tq rfl (Db ab) (Tq rfl (Ay Ac rfl rfl rfl rfl Ab (by simp only [aV,aX];omega)) (Tq rfl (A6 Ac rfl rfl rfl (fun wz hz=>(dZ af hz)) rfl) ?_)))))))))
 refine eT ?_;refine Tq rfl (Ay Ac rfl rfl rfl rfl Ab (by simp only [aV,aX];omega)) (Tq rfl (A6 Ac rfl rfl rfl (fun wz hz=>(dZ ag hz)) rfl) ?_);refine eT ?_;refine Tq rfl (Ay Ac rfl rfl rfl rfl Ab (by simp only [aV,aX];omega)) (Tq rfl (A6 Ac rfl rfl rfl (fun wz hz=>(dZ ah hz)) rfl) ?_);refine tC rfl rfl (HX.out _ Ag) ?_;rintro _ aw ⟨⟨⟩,aj⟩;revert f Z X L U M V N sz O Y;refine eY aj ?_;intro ax f Z X L U M V N sz O Y;refine ⟨f,?_⟩;refine Tq rfl (At rfl rfl (by simp only [aU,aV,aX];omega)) (Tq rfl (At rfl rfl (by simp only [aU,aV,aX];omega)) ?_);refine tC rfl rfl (HY.out _ Ag) ?_;rintro _ ay ⟨⟨⟩,ak⟩;revert f Z X L U M V N sz O Y;refine eY ak ?_;intro z22 f Z X L U M V N sz O Y;refine ⟨f,?_⟩;refine Tq rfl (At rfl rfl (by simp only [aU,aV,aX];omega)) (Tq rfl (At rfl rfl (by simp only [aU,aV,aX];omega)) (Tq rfl (At rfl rfl (by simp only [aU,aV,aX];omega)) ?_));refine tC rfl rfl (HZ.out _ Ag) ?_;rintro _ az ⟨⟨⟩,al⟩;revert f Z X L U M V N sz O Y;refine eY al ?_;intro a0 f Z X L U M V N sz O Y;refine ⟨f,?_⟩;refine Tq rfl (At rfl rfl (by simp only [aU,aV,aX];omega)) (Tq rfl (At rfl rfl (by simp only [aU,aV,aX];omega)) (Tq rfl (At rfl rfl (by simp only [aU,aV,aX];omega)) ?_));refine tC rfl rfl (HU.out _ Ag) ?_;rintro _ a1 ⟨⟨⟩,am⟩;revert f Z X L U M V N sz O Y;refine eY am ?_;intro a2 f Z X L U M V N sz O Y;refine ⟨f,?_⟩;refine AF rfl (C1 (At rfl rfl (by simp only [aU,aV,aX];omega)) (C1 (At rfl rfl (by simp only [aU,aV,aX];omega)) ?_));refine eK ?_;refine xR ?_
 all_goals exact ⟨CS Bd,X⟩
def ZH (S:nP) (n:Int) (s:lB) (x y z:Nd) (hx:C8 S 203 dT x) (hy:LD S y) (Z:C8 S 203 dT z):TD S (.mk 54 n s [x,y,z]):=by
 intro a c d w hd aa hs;have X:=dI w;have ab:(Nd.mk 54 n s [x,y,z]).stmtT d=[108,111,99,97,108,32]++(s++([32,61,32]++(x.text++([32,123,10]++(y.linesT (d+1)++(BX d++([125,32,100,101,108,111,99,97,108,32]++z.text))))))):=by
  rw [Nd.stmtT.eq_def];simp [CJ,cF]
 rw [ab] at aa ⊢;clear ab;simp only [aU,aV,aX] at aa;simp only [dW,dM,dU,dO,dN];simp only [dY] at hs;simp only [dL,Am] at hd;obtain ⟨kb,ko,rfl,-,E⟩:=Ba hs Bd;obtain ⟨xa,xc,F,N⟩:=E 0 x rfl;obtain ⟨ya,yc,L,O⟩:=E 1 y rfl;obtain ⟨za,zc,M,sz⟩:=E 2 z rfl;clear E hs;have an:(BX d).length=d:=Dh d;have HX:=bA (fun U h=>hx xa xc U h);have HY:Hid (∀U,y.sits S U ya->Calls prog 108 #[y.val ya yc,.int .i64 ((d:Int)+1)] U fun e w'=>e = .returned (str (y.linesT (d+1)))/\Ext U w'):=bA fun U h=>hy ya yc (d+1) U Ab Ab h
 have HZ:=bA (fun U h=>Z za zc U h);clear hx hy Z;generalize x.text=tx at *;generalize y.linesT (d+1)=ty at *;generalize z.text=tz at *;have HT:=bA (fun U=>E9 d U Ab);generalize BX d=td at *;obtain ⟨xk,xn,xs,xl⟩:=x;obtain ⟨yk,yn,ys,yl⟩:=y;obtain ⟨zk,zn,zs,zl⟩:=z;simp only [dM,dU,dO,dN,dW,eR] at F L M HX HY HZ;refine Af func154 ntmps154 rfl rfl ?_;refine cS (eB [_,_,_,_] ?_);intro b1 w2 V x5 p6 z7;revert X F N L O M sz;refine eE x5 ?_;intro X F N L O M sz;refine eK ?_;refine cC rfl (HT.out _) ?_;rintro _ w9 ⟨⟨⟩,x8⟩;revert V X F N L O M sz;refine eY x8 ?_;intro ao V X F N L O M sz;refine eK ?_;refine AC (fun wz=>Ext w9 wz) 29 (.pure 0 (.pure 1 (.pure 2 (.pure 3 (.pure 4 (.pure 5 (.pure 6 (.pure 7 (.pure 8 (.pure 9 (.pure 13 (.pure 14 (.pure 15 (.pure 16 (.pure 17 (.pure 18 (.pure 21 (.pure 24 (.pure 25 (.pure 26 (.pure 27 (.fork 10 (.pure 11 (.pure 12 (.fork 19 (.pure 20 (.pure 22 (.pure 23 (.fork 28 .tail .none)))) .none))) .none)))))))))))))))))))))) mixed Bl (Aa (Al (Aa An))) ?_;intro ag ac _;have f:(fun wz=>Ext w9 wz) ag:=ac;simp only at f;have Y:=V;have ad:=F;have ak:=N;have ae:=L;have al:=O;have af:=M;have am:=sz;revert V X F N L O M sz;refine eY ac ?_;intro ap V X F N L O M sz;refine ⟨f,?_⟩;refine Tq rfl Mv (Tq rfl (At rfl rfl (by simp only [aV,aX];omega)) (Tq rfl Pf (Tq rfl (Db Y) (Tq rfl (At rfl rfl (by simp only [aU,aV,aX];omega)) (Tq rfl (At rfl rfl (by simp only [aU,aV,aX];omega)) (Tq rfl Pf (Tq rfl (Db Y) (Tq rfl (Ay Ac rfl rfl rfl rfl Ab (by simp only [aV,aX];omega)) (Tq rfl (Br [_,_,_,_] Ac rfl rfl rfl (fun wz Z=>(dZ ad Z)) rfl rfl) (Tq rfl Pf (Tq rfl (Db Y) ?_)))))))))))
 refine Tq rfl (Ay Ac rfl rfl rfl rfl Ab (by simp only [aV,aX];omega)) (Tq rfl (A6 Ac rfl rfl rfl (fun wz Z=>(dZ ae Z)) rfl) ?_);refine eT ?_;refine Tq rfl (Ay Ac rfl rfl rfl rfl Ab (by simp only [aV,aX];omega)) (Tq rfl (A6 Ac rfl rfl rfl (fun wz Z=>(dZ af Z)) rfl) ?_);refine tC rfl rfl (HX.out _ Ag) ?_;rintro _ aq ⟨⟨⟩,ah⟩;revert f V X F N L O M sz;refine eY ah ?_;intro ar f V X F N L O M sz;refine ⟨f,?_⟩;refine Tq rfl (At rfl rfl (by simp only [aU,aV,aX];omega)) (Tq rfl (At rfl rfl (by simp only [aU,aV,aX];omega)) ?_);refine tC rfl rfl (HY.out _ Ag) ?_;rintro _ au ⟨⟨⟩,ai⟩;revert f V X F N L O M sz;refine eY ai ?_;intro z22 f V X F N L O M sz;refine ⟨f,?_⟩;refine Tq rfl (At rfl rfl (by simp only [aU,aV,aX];omega)) (Tq rfl (At rfl rfl (by simp only [aU,aV,aX];omega)) (Tq rfl (At rfl rfl (by simp only [aU,aV,aX];omega)) ?_));refine tC rfl rfl (HZ.out _ Ag) ?_;rintro _ av ⟨⟨⟩,aj⟩;revert f V X F N L O M sz;refine eY aj ?_;intro aw f V X F N L O M sz;refine ⟨f,?_⟩;refine AF rfl (C1 (At rfl rfl (by simp only [aU,aV,aX];omega)) (C1 (At rfl rfl (by simp only [aU,aV,aX];omega)) ?_));refine eK ?_;refine xR ?_
 all_goals exact ⟨CS Bd,X⟩
def ZI (S:nP) (n:Int) (s:lB) (x:Nd) (hx:LD S x):TD S (.mk 55 n s [x]):=by
 intro a c d w hd L hs;have X:=dI w;have V:(Nd.mk 55 n s [x]).stmtT d=[108,111,99,97,108,32,115,116,97,99,107,32]++(s++([32,123,10]++(x.linesT (d+1)++(BX d++[125])))):=by
  rw [Nd.stmtT.eq_def];simp [CJ,cF]
 rw [V] at L ⊢;clear V;simp only [aU,aV,aX] at L;simp only [dW,dM,dU,dO,dN];simp only [dY] at hs;simp only [dL,Am] at hd;obtain ⟨kb,ko,rfl,-,M⟩:=Ba hs Bd;obtain ⟨xa,xc,E,F⟩:=M 0 x rfl;clear M hs;have ad:(BX d).length=d:=Dh d;have HX:Hid (∀O,x.sits S O xa->Calls prog 108 #[x.val xa xc,.int .i64 ((d:Int)+1)] O fun e w'=>e = .returned (str (x.linesT (d+1)))/\Ext O w'):=bA fun O h=>hx xa xc (d+1) O Ab Ab h
 clear hx;generalize x.linesT (d+1)=tx at *;have HT:=bA (fun O=>E9 d O Ab);generalize BX d=td at *;obtain ⟨xk,xn,xs,xl⟩:=x;simp only [dM,dU,dO,dN,dW,eR] at E HX;refine Af func154 ntmps154 rfl rfl ?_;refine cS (eB [_,_,_,_] ?_);intro b1 w2 U x5 p6 z7;revert X E F;refine eE x5 ?_;intro X E F;refine eK ?_;refine cC rfl (HT.out _) ?_;rintro _ w9 ⟨⟨⟩,x8⟩;revert U X E F;refine eY x8 ?_;intro ae U X E F;refine eK ?_;refine AC (fun wz=>Ext w9 wz) 15 (.pure 0 (.pure 1 (.pure 2 (.pure 3 (.pure 4 (.pure 5 (.pure 6 (.pure 7 (.pure 8 (.pure 9 (.pure 10 (.pure 11 (.pure 14 (.fork 12 (.pure 13 .tail) .none)))))))))))))) mixed Bl (Aa An) ?_;intro aa Y _;have f:(fun wz=>Ext w9 wz) aa:=Y;simp only at f;have N:=U;have Z:=E;have ac:=F;revert U X E F;refine eY Y ?_;intro af U X E F;refine ⟨f,?_⟩;refine Tq rfl Mv (Tq rfl (At rfl rfl (by simp only [aV,aX];omega)) (Tq rfl Pf (Tq rfl (Db N) (Tq rfl (At rfl rfl (by simp only [aU,aV,aX];omega)) (Tq rfl (At rfl rfl (by simp only [aU,aV,aX];omega)) (Tq rfl Pf (Tq rfl (Db N) (Tq rfl (Ay Ac rfl rfl rfl rfl Ab (by simp only [aV,aX];omega)) (Tq rfl (Br [_,_,_,_] Ac rfl rfl rfl (fun wz hz=>(dZ Z hz)) rfl rfl) ?_)))))))));refine eT ?_;refine tC rfl rfl (HX.out _ Ag) ?_
 rintro _ ag ⟨⟨⟩,ab⟩;revert f U X E F;refine eY ab ?_;intro ah f U X E F;refine ⟨f,?_⟩;refine Tq rfl (At rfl rfl (by simp only [aU,aV,aX];omega)) ?_;refine AF rfl (C1 (At rfl rfl (by simp only [aU,aV,aX];omega)) (C1 (At rfl rfl (by simp only [aU,aV,aX];omega)) ?_));refine eK ?_;refine xR ?_;all_goals exact ⟨CS Bd,X⟩
def RC {t:Nd} (h:t.isVar=true):t.text=t.name:=by
 obtain ⟨k,n,s,l⟩:=t;simp only [Nd.isVar,dM,bB,beq_iff_eq] at h;rw [h.1,Nd.text.eq_def];simp [dO]
def SC (S:nP) (k n:Int) (s:lB) (l:List Nd) (hk:k=50\/k=51) (hv : ∀t∈l,t.isVar=true):TD S (.mk k n s l):=by
 intro a c d w hd M h;have X:=dI w;have U:(Nd.mk k n s l).stmtT d=IT k++[32]++s++[40]++C7 true l++[41]:=by
  rw [Nd.stmtT.eq_def];have aa:=Im k Ab Ab;simp only;rw [AE Ab,AE Ab,AE Ab,AU Ab,aa]
 rw [U] at M ⊢;clear U;simp only [aU,aV,aX] at M;simp only [dW,dM,dU,dO,dN];simp only [dY] at h;simp only [dL] at hd;have ag:l.length<=Am l:=by
  clear M h hv hd
  induction l with
  | nil=>simp [Am]
  | cons x r ih=>have:=Nd.size_pos x;simp only [Am,aV];omega
 have ah:(BX d).length=d:=Dh d;have ai:=Kn k;have HT:=bA (fun w1=>E9 d w1 Ab);have HV:=bA hv;have HL:=bA (Qq l);clear hv;generalize BX d=td at *;refine Af func154 ntmps154 rfl rfl ?_;refine cS (eB [_,_,_,_] ?_);intro b1 w2 L x5 p6 z7;revert h X;refine eE x5 ?_;intro h X;refine eK ?_;refine cC rfl (HT.out _) ?_;rintro _ w9 ⟨⟨⟩,x8⟩;revert L h X;refine eY x8 ?_;intro aj L h X;refine C1 Pa (cT (Aj (cS (C1 Pg (C1 (Pl L) (cT ?_))))));refine Ar ?_;refine Aj (cS (C1 V1 (C1 Pa (cT (C9 (cS (C1 V1 (C1 Pa (cT (C9 (Ad ?_)))))))))));refine C1 V1 (C1 Pa (cT (C9 (cS (C1 V1 (C1 Pa (cT (C9 (cS (C1 V1 (C1 Pa ?_)))))))))));refine cT (C9 (Aj (cS (C1 V1 (C1 Pa (cT (C9 (Ad (C1 V1 (C1 Pa (cT ?_)))))))))));refine C9 (Aj (cS (C1 V1 (C1 Pa (cT (C9 (cS (C1 V1 (C1 Pa (cT (C9 ?_)))))))))));refine cS (C1 V1 (C1 Pa (cT (C9 (Ad (C1 V1 (C1 Pa (cT (C9 (Aj ?_))))))))));refine GH (ι:=Unit) (fun _=>[(2,.pointer (some ⟨b1,0,none⟩)),(5,str td),(11,.int .u8 k),(108,.bool true)]) (fun _ w'=>w'=w9) ?_ ?_
 . focus
    refine eK ?_;refine AH rfl (fun ab=>?_) (fun ab=>?_);refine As ?_;rotate_left;refine Ad (C1 V1 (C1 Pa (Ah ?_)));rotate_left
   all_goals exact BL () (Ak rfl (Ak rfl (Ak rfl (AW rfl (congrArg dF (decide_eq_true Ab)) AY)))) rfl
 rintro-u1 rfl;refine eK ?_;refine AC (fun wz=>Ext u1 wz) 8 (.pure 0 (.pure 1 (.pure 2 (.pure 6 (.pure 7 (.fork 3 (.pure 4 (.pure 5 .tail)) .none)))))) mixed Bl (Aa (Al (Aa An))) ?_;intro ac V _;have E:(fun wz=>Ext u1 wz) ac:=V;simp only at E;have ae:=L;have af:=h;revert L h X;refine eY V ?_;intro ak L h X;refine ⟨E,?_⟩;refine eT ?_;refine tC rfl rfl (OF k _ Ab Ab) ?_;rintro _ al ⟨⟨⟩,ad⟩;revert E L h X;refine eY ad ?_;intro am E L h X;refine ⟨E,?_⟩;refine Tq rfl (At rfl rfl Ab) (Tq rfl (At rfl rfl (by simp only [aU,aV,aX];omega)) ?_);refine AF rfl (C1 (At rfl rfl (by simp only [aU,aV,aX];omega)) (C1 (At rfl rfl (by simp only [aU,aV,aX];omega)) (C1 Pa (cT (Aj (cS (C1 Pa (cT ?_))))))));refine Ar ?_;refine AJ (ι:=Nat) (fun i=>[(2,.pointer (some ⟨b1,0,none⟩)),(6,str (td++IT k++[32]++s++[40]++C7 true (l.take i))),(7,.int .i64 i)])
  (fun i w'=>i<=l.length/\Blk w' b1 [.int .u8 k,.int .i64 n,str s,.slice a l.length c]/\rowSits S w' l a/\Ext w w') (fun i=>l.length-i) 0 (by rw [show C7 true (l.take 0)=[] from rfl,List.append_nil];(refine Ak rfl ?_;refine Ak rfl ?_;refine Ak rfl ?_;exact AY)) ⟨bI _,L,h,X⟩ ?_
 clear L h X;rintro i w1 ⟨hi,L,h,X⟩;have an:=HL.out i;by_cases N:i<l.length
 . obtain ⟨kb,ko,rfl,-,O⟩:=Ba h (by intro e;subst e;simp at N);obtain ⟨xa,xc,rx,-⟩:=O i l[i] (aY N);have F:=Mn l i N;have Y:=RC (HV.out _ (bD N));rw [Y] at F;have f:=HL.out (i+1);rw [F] at f;clear O HV HL Y;generalize l[i]=x at *;generalize C7 true (l.take i)=pre at *;obtain ⟨xk,xn,xs,xl⟩:=x;simp only [dM,dU,dO,dN,eR] at rx F f;by_cases Z:i=0
   . rw [AU Z] at F f;simp only [aU,aV,aX] at f;refine eK ?_;refine C1 (Pw rx) (C1 (At rfl rfl (by simp only [aU,aV,aX];omega)) (C1 Pa (Ah (Ae (Ai (Ad (C1 Mv (C1 V7 (C1 Pa (Ah ?_))))))))));exact Aw (i+1) (by rw [F];simp only [List.nil_append,<-cF];(refine Ak rfl ?_;refine Ak rfl ?_;refine Ak rfl ?_;exact AY)) ⟨Ab,L,h,X⟩ Ab
   . rw [AE Z] at F f;simp only [aU,aV,aX] at f;refine eK ?_;refine C1 (At rfl rfl (by simp only [aU,aV,aX];omega)) ?_;refine eK ?_;refine C1 (Pw rx) (C1 (At rfl rfl (by simp only [aU,aV,aX];omega)) (C1 Pa (Ah (Ae (Ai (Ad (C1 Mv (C1 V7 (C1 Pa (Ah ?_))))))))));exact Aw (i+1) (by rw [F];simp only [List.nil_append,<-cF];(refine Ak rfl ?_;refine Ak rfl ?_;refine Ak rfl ?_;exact AY)) ⟨Ab,L,h,X⟩ Ab
 . obtain rfl:i=l.length:=by omega
   rw [bH];clear HV HL;generalize C7 true l=pre at *;refine eK ?_;refine C1 (At rfl rfl (by simp only [aU,aV,aX];omega)) ?_;refine eK ?_;refine xR ?_;exact ⟨CS Bd,X⟩
def YV (S:nP) (k n:Int) (s:lB) (l:List Nd) (U : ∀t∈l,TD S t):LD S (.mk k n s l):=by
 intro a c d w hd F f;have X:=dI w;rw [show (Nd.mk k n s l).linesT d=BV l d from by simp [fB]] at F ⊢;simp only [dW,dM,dU,dO,dN];simp only [dY] at f;simp only [dL,Am] at hd;have ab:l.length<=Am l:=by
  clear F f U hd
  induction l with
  | nil=>simp [Am]
  | cons x r ih=>have:=Nd.size_pos x;simp only [Am,aV];omega
 have V:=bA U;clear U;refine Af func108 ntmps108 rfl rfl ?_;refine cS (eB [_,_,_,_] ?_);intro b1 w2 N x5 p6 z7;revert f X;refine eE x5 ?_;intro f X;refine C1 Pa (cN (C1 Pa (cT (Aj (cS (C1 Pa (cT ?_)))))));refine Ar ?_;refine AJ (ι:=Nat) (fun j=>[(1,.int .i64 d),(2,.pointer (some ⟨b1,0,none⟩)),(5,str (BV (l.take j) d)),(6,.int .i64 j)])
  (fun j w'=>j<=l.length/\Blk w' b1 [.int .u8 k,.int .i64 n,str s,.slice a l.length c]/\rowSits S w' l a/\Ext w w') (fun j=>l.length-j) 0 sB ⟨bI _,N,f,X⟩ ?_
 clear N f X;rintro j Y ⟨hj,N,f,X⟩;have ac:=Ij l j d;by_cases E:j<l.length
 . obtain ⟨kb,ko,rfl,-,L⟩:=Ba f (by intro e;subst e;simp at E);obtain ⟨xa,xc,Z,sx⟩:=L j l[j] (aY E);have O:=IS l j d E;have M:=Ij l (j+1) d;rw [O] at M;simp only [aU,aV,aX] at M;have ad:=Dz (bD E);have HS:=bA (fun Y (h:l[j].sits S Y xa)=>V.out l[j] (bD E) xa xc d Y Ab Ab h);clear L V;generalize l[j]=x at *;generalize x.stmtT d=tx at *;generalize BX d=td at *;generalize BV (l.take j) d=pre at *;obtain ⟨xk,xn,xs,xl⟩:=x;simp only [dM,dU,dO,dN,dW,eR] at Z HS;refine eK ?_;refine cC rfl (HS.out _ Ag) ?_;rintro _ ae ⟨⟨⟩,aa⟩;revert X N f Z sx;refine eY aa ?_;intro af X N f Z sx;refine C1 (At rfl rfl (by simp only [aU,aV,aX];omega)) (C1 Pa (Ah (Ae (Ai (Ad (C1 Mv (C1 V7 (C1 Pa (Ah ?_)))))))));exact Aw (j+1) (by rw [O];(refine Ak rfl ?_;refine Ak rfl ?_;refine Ak rfl ?_;refine Ak rfl ?_;exact AY)) ⟨Ab,N,f,X⟩ Ab
 . obtain rfl:j=l.length:=by omega
   rw [bH];clear V;refine eK ?_;refine xR ?_;exact ⟨rfl,X⟩
def T0 (S:nP) (N:Nat):(∀t:Nd,t.size<N->t.size<=1000000->t.wf->t.isStmt=true->TD S t)/\(∀t:Nd,t.size<N->t.size<=1000000->t.wf->t.isBlock=true->LD S t):=by
 induction N with
 | zero=>exact ⟨fun t h=>absurd h (Nat.not_lt_zero _),fun t h=>absurd h (Nat.not_lt_zero _)⟩
 | succ N X=>
  have M : ∀t:Nd,t.size<=1000000->t.wf->t.isExpr=true->C8 S 203 dT t:=fun t h1 h2 h3=>TZ S t Ab h2 h3
  have Y : ∀t:Nd,t.isPlace=true->t.isExpr=true:=fun t h=>by simp only [Nd.isPlace,bB] at h;exact h.2
  refine ⟨?_,?_⟩
  . rintro ⟨k,n,s,l⟩ O U L f;simp only [Nd.wf,dL] at L O U;obtain ⟨Z,aa,ab,ac,ad,ae,E⟩:=L;rw [Nd.isStmt.eq_def] at f;simp only [] at f;by_cases c1:k=40\/k=41\/k=42\/k=56
    . rw [AU c1] at f;rcases l with _|⟨x,_|⟨y,_|⟨z,l⟩⟩⟩<;>simp at f
      simp only [Am,A3] at O U E;have F:=M x Ab E.1 (Y x f.2.1);have V:=M y Ab E.2.1 f.2.2;rcases c1 with rfl|rfl|rfl|rfl
      . exact RB S 40 n Ab s x y F V
      . exact RB S 41 n Ab s x y F V
      . exact RB S 42 n Ab s x y F V
      . exact ZD S n s x y F V
    rw [AE c1] at f;by_cases c2:k=43
    . rw [AU c2] at f;rcases l with _|⟨x,_|⟨y,_|⟨z,l⟩⟩⟩<;>simp at f
      simp only [Am,A3] at O U E;subst c2;exact ZE S n s x y (M x Ab E.1 (Y x f.2.1)) (M y Ab E.2.1 (Y y f.2.2))
    rw [AE c2] at f;by_cases c3:k=44\/k=45
    . rw [AU c3] at f;rcases l with _|⟨x,_|⟨y,l⟩⟩<;>simp at f
      simp only [Am,A3] at O U E;have F:=M x Ab E.1 (Y x f.2);rcases c3 with rfl|rfl
      . exact Yg S 44 n Ab s x F
      . exact Yg S 45 n Ab s x F
    rw [AE c3] at f;by_cases c4:46<=k/\k<=49
    . rw [AU c4] at f;rcases l with _|⟨x,_|⟨y,l⟩⟩<;>simp at f
      simp only [Am,A3] at O U E;have F:=M x Ab E.1 (Y x f.2);have:k=46\/k=47\/k=48\/k=49:=by omega
      rcases this with rfl|rfl|rfl|rfl
      . exact SB S 46 n Ab s x F
      . exact SB S 47 n Ab s x F
      . exact SB S 48 n Ab s x F
      . exact SB S 49 n Ab s x F
    rw [AE c4] at f;by_cases c5:k=50\/k=51
    . rw [AU c5] at f;simp only [bB,cX] at f;rcases c5 with c5|c5
      . exact SC S k n s l Ab f.2
      . exact SC S k n s l Ab f.2
    rw [AE c5] at f;by_cases c6:k=52\/k=53
    . rw [AU c6] at f;rcases l with _|⟨x,_|⟨y,_|⟨z,_|⟨u,_|⟨v,l⟩⟩⟩⟩⟩<;>simp at f
      simp only [Am,A3] at O U E;have F:=M x Ab E.1 f.2.1.1.1;have V:=X.2 y Ab Ab E.2.1 f.2.1.1.2;have ez:=X.2 z Ab Ab E.2.2.1 f.2.1.2;have eu:=M u Ab E.2.2.2.1 f.2.2;rcases c6 with rfl|rfl
      . exact ZF S n s x y z u F V ez eu
      . exact ZG S n s x y z u F V ez eu
    rw [AE c6] at f;by_cases c7:k=54
    . rw [AU c7] at f;rcases l with _|⟨x,_|⟨y,_|⟨z,_|⟨u,l⟩⟩⟩⟩<;>simp at f
      simp only [Am,A3] at O U E;subst c7;exact ZH S n s x y z (M x Ab E.1 f.2.1.1) (X.2 y Ab Ab E.2.1 f.2.1.2) (M z Ab E.2.2.1 f.2.2)
    rw [AE c7] at f;by_cases c8:k=55
    . rw [AU c8] at f;rcases l with _|⟨x,_|⟨y,l⟩⟩<;>simp at f
      simp only [Am,A3] at O U E;subst c8;exact ZI S n s x (X.2 x Ab Ab E.1 f.2)
    . rw [AE c8] at f;simp at f
  . rintro ⟨k,n,s,l⟩ O U L f;simp only [Nd.wf,dL] at L O U;obtain ⟨Z,aa,ab,ac,ad,ae,E⟩:=L;rw [Nd.isBlock.eq_def] at f;simp only [bB] at f;have af : ∀t∈l,t.isStmt=true:=by have:=f.2;rw [F8,cX] at this;exact this
    refine YV S k n s l fun t ht=>?_
    have:=Dz ht;exact X.1 t Ab Ab (BJ E t ht) (af t ht)
def Mr (S:nP) (t:Nd) (h:t.size<=1000000) (f:t.wf) (E:t.isBlock=true):LD S t:=(T0 S (t.size+1)).2 t Ab h f E
end Bk
