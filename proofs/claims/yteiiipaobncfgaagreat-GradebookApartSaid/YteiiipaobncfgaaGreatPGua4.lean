/- Texts that the proofs of GradebookNone, GradebookFull, GradebookNew, GradebookRanks, GradebookApart need. No condition. (Part 4 of 13.) -/
import Derived.Test.YteiiipaobncfgaaGreatPGua3
set_option linter.unusedSimpArgs false
set_option linter.unusedVariables false
set_option linter.defProp false
set_option maxRecDepth 100000
set_option maxHeartbeats 4000000
open Go.Proofs.Tryz
open List renaming getElem?_eq_getElem->gm,take_succ_eq_append_getElem->gx,getElem_mem->gA,length_cons->gD,take_length->gF,getElem?_eq_none->gG,getElem?_append_left->gJ,length_append->gO,replicate->gT,getElem?_append_right->gU,getElem?_map->gV,drop_eq_getElem_cons->gW,getElem?_cons_zero->gX,getD_eq_getElem?_getD->gY,append_assoc->gZ,length_nil->hH,mem_singleton->ia,length_take->ij,mem_cons->ik,map_cons->im,mem_of_getElem?->io,range->it,getElem?_set_ne->iF,not_mem_nil->iH
open Go.Lib renaming hid->gp
open Or renaming inl->gq,inr->gt
open Bool renaming and_eq_true->gu,false_eq_true->iE
open Go.Result renaming andThen->gw
open Option.some renaming injEq->gy,inj->gB
open Go.IntWalk renaming i64_in->gz
open Nat renaming zero_le->gC,le_refl->gI,lt_or_ge->gK,blt->gM,le_of_ble_eq_true->gS,eq_of_beq_eq_true->ip,zero_add->iu,ble->iy,beq->iA
open Go.Sem renaming run_bind->gE,run_pure->gP
open Go renaming Calls->gH
open Except renaming bind->gL
open Go.Value renaming slice->gN,int->ii,ownBlock->iI
open Go.Region renaming ready->gQ,binds->iw
open Go.Value.slice renaming injEq->gR
open Go.DataW renaming trod->ic
open List.cons renaming injEq->ig
open Go.Builtin renaming zeroCells->iq
open Go.Calls renaming mono->ir
open Array renaming getElem?_eq_none->iv,replicate->iD
open Go.Oper renaming wp->iB
open Go.Addr renaming add->iC
open Go.IntKind renaming wrap->iG
open Go.Op renaming equalIn->iJ
open Bk.Ext renaming refl->iK,trans->iS,fr->iY
open Bk.Nd.sits renaming fr->iL,wide->iR
open Bk.Row renaming ext->iN
open Bk.Blk renaming fr->iO,cell->iV,ext->iW,row->i7
open Bk.Fr renaming refl->iP,fr->iU
open Bk.Nd renaming size->iX
open Bk.Value renaming one->i6
open Bk.Arr renaming get->i8
open Bk.rowSits renaming fr->jh
open Bk.VDs renaming fr->jm
namespace Bk
open Go Go.RowKit Go.Proofs
attribute [local irreducible] Go.Calls
variable {w w':wD} {G c:Nat} {l:List PD} {S:nP} {v:Value} {a:oA}
def PathAt (S:nP) (w:wD) (a:oA) (n c:Nat):Prop:=(n<=c/\(a=none->c=0)) /\ ∃cs:lV,cs.length=n*1/\cs.all i6=true/\Rows S w cs a
def PathAt.nil:PathAt S w none 0 0:=⟨⟨gI _,λ_=>rfl⟩,[],rfl,rfl,gq rfl⟩
def PathAt.ext {S:nP} {w w':wD} {a:oA} {n c:Nat} (h:PathAt S w a n c) (x:Ext w w'):PathAt S w' a n c:=⟨h.1,by obtain ⟨cs,G,M,N⟩:=h.2;exact ⟨cs,G,M,N.ext x⟩⟩
instance {n:Nat}:LfE w w' (PathAt S w a n c) (PathAt S w' a n c):=⟨λx h=>Bk.PathAt.ext h x⟩
def PathAt.fr {S T:nP} {w w':wD} {a:oA} {n c:Nat} (h:PathAt S w a n c) (x:Fr T w w') (G:∀b,S b -> ¬T b):PathAt S w' a n c:=⟨h.1,by obtain ⟨cs,M,N,O⟩:=h.2;exact ⟨cs,M,N,O.fr x G⟩⟩
instance {T:nP} {n:Nat}:LfF T w w' (PathAt S w a n c) (∀b,S b -> ¬T b) (PathAt S w' a n c):=⟨λx s h=>Bk.PathAt.fr h x s⟩
def PathAt.clone {n:Nat} (h:PathAt S w a n c) (V:n<=1000000):Calls prog 88 #[.slice a n c] w (SliceR n w):=by
 obtain ⟨⟨X,G⟩,cs,M,N,O⟩:=h;cases a with
 | some p=>exact KG cs n M N Ab S p c w O
 | none=>
  have U:=G rfl;subst U;obtain rfl:n=0:=by omega
  exact KH w
def ChildR (n:Nat) (w:wD):Ending->wD->Prop:=λe w'=> ∃g c,e = .returned (.slice (some ⟨g,0,none⟩) (n+1) c)/\PathAt (λb=>w.heap.size<=b/\b<w'.heap.size) w' (some ⟨g,0,none⟩) (n+1) c/\Ext w w'
def ChildR.ret {n:Nat} {e:Ending} (h:ChildR n w e w'):∃v,e = .returned v:=by
 obtain ⟨_,_,h,-⟩:=h;exact ⟨_,h⟩
def Tk (i:Int) (S:nP) (a:oA) (n c:Nat) (w:wD) (V:n<=1000000) (Y:PathAt S w a n c):Calls prog 145 #[.slice a n c,.int .i64 i] w (ChildR n w):=by
 have X:=iK w;obtain ⟨⟨Z,-⟩,cs,U,h2,h⟩:=Y;have h:=h.ltA;refine Ad func145 ntmps145 rfl rfl (kC (YG _ _ _ _ Z V) ?_);rintro _ w1 ⟨⟨⟩,rfl⟩;refine C1 Mv (Ax (xS [_]) rfl ?_ aFh);rintro _ w3 ⟨b2,rfl,G,t5⟩;have h6:=G.blk;have x7:=G.ext;have p8:=G.pos;have z9:=G.size;revert X h;refine eE x7 ?_;intro X h;refine Ax (CV Ac Cs rfl rfl rfl rfl AT rfl rfl rfl Af U (i7 Af) rfl rfl Ab) rfl ?_ aFh;rintro _ aa ⟨ab,M,rfl,N,ac,ad,ae,O⟩;have X:=X.ext O;refine kR ?_;exact ⟨_,_,rfl,⟨⟨N,λe=>by cases e⟩,cs++[.int .i64 i],by simp [U],by rw [List.all_append,h2];rfl,gt ⟨_,_,rfl,⟨Ab,Ab⟩,Af⟩⟩,X⟩
def InnerR (S:nP) (L:List VD) (w:wD):Ending->wD->Prop:=λe w'=> ∃a c,e = .returned (.slice a L.length c)/\L.length<=c/\VDs (λb=>S b\/(w.heap.size<=b/\b<w'.heap.size)) w' L a/\Ext w w'
def InnerR.ret {L:List VD} {e:Ending} (h:InnerR S L w e w'):∃v,e = .returned v:=by
 obtain ⟨_,_,h,-⟩:=h;exact ⟨_,h⟩
def LQ {l:List VD} {v:VD} {g:Nat} (h:l.length+1<=c) (G:Row w' ⟨g,0,none⟩ (l.flatMap VD.cells++v.cells)) (M:w.heap.size<=g) (N:g<w'.heap.size) (X:Ext w w'):InnerR S (l++[v]) w (.returned (.slice (some ⟨g,0,none⟩) (l.length+1) c)) w':=by
 refine ⟨some ⟨g,0,none⟩,c,AN,by simpa using h,LN (gt ⟨g,0,rfl,gt ⟨M,N⟩,?_⟩),X⟩;rw [List.flatMap_append];simpa using G
def YH (k n:Int) (s:lB) (kl:List Nd) (ka:oA) (kc i:Nat) (l:List VD) (hl:l.length<=1000000) (S:nP) (a:oA) (c:Nat) (w:wD) (hc:l.length<=c) (hs:VDs S w l a) :
 Calls prog 147 #[(Nd.mk k n s kl).val ka kc,.int .i64 i,.slice a l.length c] w (InnerR S (CP k s i l) w):=by
 have X:=iK w;have h1:=Hc Ol l;have hs:=PQ hs;have N:=hs.ltA;show Calls prog 147 #[.agg #[.int .u8 k,.int .i64 n,str s,.slice ka kl.length kc],.int .i64 i,.slice a l.length c] w (InnerR S (CP k s i l) w);by_cases V:k=54/\i=1
 . have hv:CP k s i l=l++[⟨s,1,0⟩]:=by unfold CP;rw [AQ V]
   rw [hv];obtain ⟨rfl,rfl⟩:=V;refine Ad func147 ntmps147 rfl rfl ?_
   focus
    refine cS (eB [_,_,_,_] ?_);intro b1 w2 h4 x5 p6 z7;revert X N;refine eE x5 ?_;intro X N;refine eK ?_;refine Aq (λwz=>Ext w2 wz) 6 (.pure 0 (.pure 2 (.pure 3 (.pure 4 (.fork 1 (.fork 5 .tail .none) (.fork 5 (.fork 1 .tail .none) .none)))))) mixed AT (Aa (Ae (Aa Ag))) ?_;intro w8 x9 _;have M:(λwz=>Ext w2 wz) w8:=x9;simp only at M;have ay:=h4;revert X N;refine eY x9 ?_;intro bq X N;refine ⟨M,?_⟩;refine eT ?_;refine Tq rfl (xB [_,_,_]) (AE rfl (AR AT rfl (Lf _ _ _ _ hc hl) (λ_ _ h=>⟨_,h.1⟩)) rfl ?_ aFh ?kr12);rintro _ br ⟨⟨⟩,rfl⟩;refine ⟨M,?_⟩;refine AE rfl (xS [_,_,_]) rfl ?_ aFh AD;rintro _ bs ⟨bt,rfl,Y,bu⟩;have bv:=Y.blk;have al:=Y.ext;have bw:=Y.pos;have z22:=Y.size;revert M X N;refine eE al ?_;intro M X N;refine ⟨M,?_⟩;refine At rfl (Ax (CV Ac Cs rfl rfl rfl rfl AT rfl rfl rfl Af h1 (i7 Af) rfl rfl Ab) rfl ?_ aFh);rintro _ bx ⟨bz,aj,rfl,b0,b2,b3,b4,am⟩;have X:=X.ext am;refine kR ?_;rotate_left;refine AE rfl (xS [_,_,_]) rfl ?_ aFh AD;rintro _ b5 ⟨b6,rfl,Z,b7⟩;have b8:=Z.blk;have an:=Z.ext;have b9:=Z.pos;have ca:=Z.size;revert M X N;refine eE an ?_;intro M X N;refine ⟨M,?_⟩;refine tC rfl rfl (Lf _ _ _ _ hc hl) ?_;rintro _ cb ⟨⟨⟩,rfl⟩;refine ⟨M,?_⟩;refine At rfl (Ax (CV Ac Cs rfl rfl rfl rfl AT rfl rfl rfl Af h1 (i7 Af) rfl rfl Ab) rfl ?_ aFh);rintro _ cc ⟨cd,ak,rfl,ce,cf,cg,ch,ao⟩;have X:=X.ext ao;refine kR ?_;rotate_left
   all_goals exact LQ (v:=⟨s,1,0⟩) Af Af Ab Af X
 by_cases aa:k=55/\i=0
 . have hv:CP k s i l=l++[⟨s,3,0⟩]:=by unfold CP;rw [AB V,AQ aa]
   rw [hv];obtain ⟨rfl,rfl⟩:=aa;refine Ad func147 ntmps147 rfl rfl ?_
   focus
    refine cS (eB [_,_,_,_] ?_);intro ci ab ap aq cj ck;revert X N;refine eE aq ?_;intro X N;refine eK ?_;refine Aq (λwz=>Ext ab wz) 6 (.pure 0 (.pure 2 (.pure 3 (.pure 4 (.fork 1 (.fork 5 .tail .none) (.fork 5 (.fork 1 .tail .none) .none)))))) mixed AT (Aa (Ae (Aa Ag))) ?_;intro ar ac _;have G:(λwz=>Ext ab wz) ar:=ac;simp only at G;have au:=ap;revert X N;refine eY ac ?_;intro az X N;refine ⟨G,?_⟩;refine eT ?_;refine Tq rfl (xB [_,_,_]) (AE rfl (AR AT rfl (Lf _ _ _ _ hc hl) (λ_ _ h=>⟨_,h.1⟩)) rfl ?_ aFh ?kra12);rintro _ a0 ⟨⟨⟩,rfl⟩;refine ⟨G,?_⟩;refine AE rfl (xS [_,_,_]) rfl ?_ aFh AD;rintro _ a1 ⟨a2,rfl,O,a3⟩;have a4:=O.blk;have ad:=O.ext;have a5:=O.pos;have a6:=O.size;revert G X N;refine eE ad ?_;intro G X N;refine ⟨G,?_⟩;refine At rfl (Ax (CV Ac Cs rfl rfl rfl rfl AT rfl rfl rfl Af h1 (i7 Af) rfl rfl Ab) rfl ?_ aFh);rintro _ a7 ⟨a8,ae,rfl,a9,ba,bb,bc,af⟩;have X:=X.ext af;refine kR ?_;rotate_left;refine AE rfl (xS [_,_,_]) rfl ?_ aFh AD;rintro _ bd ⟨be,rfl,U,bf⟩;have bg:=U.blk;have ag:=U.ext;have bh:=U.pos;have bi:=U.size;revert G X N;refine eE ag ?_;intro G X N;refine ⟨G,?_⟩;refine tC rfl rfl (Lf _ _ _ _ hc hl) ?_;rintro _ bj ⟨⟨⟩,rfl⟩;refine ⟨G,?_⟩;refine At rfl (Ax (CV Ac Cs rfl rfl rfl rfl AT rfl rfl rfl Af h1 (i7 Af) rfl rfl Ab) rfl ?_ aFh);rintro _ bk ⟨bl,ah,rfl,bm,bn,bo,bp,ai⟩;have X:=X.ext ai;refine kR ?_;rotate_left
   all_goals exact LQ (v:=⟨s,3,0⟩) Af Af Ab Af X
 . have hv:CP k s i l=l:=by unfold CP;rw [AB V,AB aa]
   rw [hv];refine Ad func147 ntmps147 rfl rfl ?_
   focus
    refine cS (eB [_,_,_,_] ?_);intro cl cm cn av _ _;revert X hs;refine eE av ?_;intro X hs;refine eK ?_;refine BY rfl rfl rfl (λaw=>?_) (λaw=>?_);refine kR ?_;rotate_left;refine eK ?_;refine BY rfl rfl rfl (λax=>?_) (λax=>?_);refine kR ?_;rotate_left;refine kR ?_;rotate_left
   all_goals exact ⟨_,_,rfl,hc,(LN Af).wide (λ_ h=>gq h),X⟩
def P8 {ps:List PD} {s:lB} {i:Nat} (h:CA ps s=some i):i<ps.length:=by
 unfold CA at h;obtain ⟨G,-⟩:=List.findIdx?_eq_some_iff_getElem.1 h;exact G
set_option maxHeartbeats 8000000 in
def YI (g:PG) (hg:g.procs.length<=1000000) (k n:Int) (s:lB) (l:List Nd) (ka:oA) (kc:Nat) (v:List VD) (hv:v.length<=1000000) (S S':nP) (va:oA) (vc:Nat) (pa:oA) (pc:Nat) (ma:oA) (mc:Nat) (a:oA) (c:Nat) (w:wD) (G:PDs S w g.procs pa) (hs:VDs S' w v a) :
 Calls prog 144 #[.agg (g.cells va vc pa pc ma mc).toArray,(Nd.mk k n s l).val ka kc,.slice a v.length c] w λe w'=>e = .returned (.int .i64 (CD g.procs v k s l.length))/\Ext w w':=by
 have X:=iK w;have G:=G.ltA;have HU:=gp (dD v hv s);have HF:=gp (Ox v hv s);have HP:=gp (Oy g hg s);show Calls prog 144 #[.agg (g.cells va vc pa pc ma mc).toArray,.agg #[.int .u8 k,.int .i64 n,str s,.slice ka l.length kc],.slice a v.length c] w _;refine Ad func144 ntmps144 rfl rfl ?_
 focus
  refine cS (eB [_,_,_,_,_,_] ?_);intro b1 w2 Y x5 _ _;revert hs X G;refine eE x5 ?_;intro hs X G;refine eB [_,_,_,_] ?_;intro b8 w9 V ac _ az;revert Y hs X G;refine eE ac ?_;intro Y hs X G;refine eK ?_;refine Ay rfl (λad=>?_) (λad=>?_);rotate_left;rotate_left
 . have N:CD g.procs v k s l.length=FC v s 1:=by unfold CD;rw [AQ Ab]
   rw [N];refine kC (HU.out _ _ _ _ _ Af) ?_;rintro _ a0 ⟨⟨⟩,ae⟩;have X:=X.ext ae;refine kR ?_;exact ⟨rfl,X⟩
 focus
  refine eK ?_;refine Ay rfl (λaf=>?_) (λaf=>?_);rotate_left;refine Aj ?_;rotate_left
 . have N:CD g.procs v k s l.length=FC v s 2:=by unfold CD;rw [AB Ab,AQ Ab]
   rw [N];refine kC (HU.out _ _ _ _ _ Af) ?_;rintro _ a1 ⟨⟨⟩,ag⟩;have X:=X.ext ag;refine kR ?_;exact ⟨rfl,X⟩
 refine Dv (ι:=Unit) (λ_=>[(2,.slice a v.length c),(3,.pointer (some ⟨b1,0,none⟩)),(4,.pointer (some ⟨b8,0,none⟩)),(9,.int .u8 k),(22,.bool (decide (k=4\/k=5\/k=44\/k=45)))]) (λ_ w'=>w'=w9) ?_ ?_
 . focus
    refine eK ?_;refine Ay rfl (λah=>?_) (λah=>?_);refine Ao ?_;rotate_left;refine eK ?_;refine Ay rfl (λai=>?_) (λai=>?_);refine Ao ?_;rotate_left;refine eK ?_;refine Ay rfl (λaj=>?_) (λaj=>?_);refine Ao ?_;rotate_left;refine eK ?_;rotate_left
   all_goals exact BS () (Am rfl (Am rfl (Am rfl (Am rfl (BL rfl (congrArg Value.bool (decide_eq_decide.2 Ab)) BB))))) rfl
 rintro-u1 h;subst h
 focus
  refine Ay rfl (λak=>?_) (λak=>?_);rotate_left;refine Aj ?_;rotate_left
 . have N:CD g.procs v k s l.length=FC v s 3:=by unfold CD;rw [AB Ab,AB Ab,AQ Ab]
   rw [N];refine kC (HU.out _ _ _ _ _ Af) ?_;rintro _ a2 ⟨⟨⟩,al⟩;have X:=X.ext al;refine kR ?_;exact ⟨rfl,X⟩
 refine Dv (ι:=Unit) (λ_=>[(2,.slice a v.length c),(3,.pointer (some ⟨b1,0,none⟩)),(4,.pointer (some ⟨b8,0,none⟩)),(9,.int .u8 k),(31,.bool (decide (k=54\/k=55)))]) (λ_ w'=>w'=u1) ?_ ?_
 . focus
    refine eK ?_;refine Ay rfl (λam=>?_) (λam=>?_);refine Ao ?_;rotate_left;refine eK ?_;rotate_left
   all_goals exact BS () (Am rfl (Am rfl (Am rfl (Am rfl (BL rfl (congrArg Value.bool (decide_eq_decide.2 Ab)) BB))))) rfl
 rintro-u2 h;subst h
 focus
  refine Ay rfl (λan=>?_) (λan=>?_);rotate_left;refine Aj ?_;rotate_left
 . have N:CD g.procs v k s l.length=EW v s:=by unfold CD;rw [AB Ab,AB Ab,AB Ab,AQ Ab]
   rw [N];refine kC (HF.out _ _ _ _ Af) ?_;rintro _ a3 ⟨⟨⟩,ao⟩;have X:=X.ext ao;refine kR ?_;exact ⟨rfl,X⟩
 refine Dv (ι:=Unit) (λ_=>[(2,.slice a v.length c),(3,.pointer (some ⟨b1,0,none⟩)),(4,.pointer (some ⟨b8,0,none⟩)),(9,.int .u8 k),(38,.bool (decide (k=50\/k=51)))]) (λ_ w'=>w'=u2) ?_ ?_
 . focus
    refine eK ?_;refine Ay rfl (λap=>?_) (λap=>?_);refine Ao ?_;rotate_left;refine eK ?_;rotate_left
   all_goals exact BS () (Am rfl (Am rfl (Am rfl (Am rfl (BL rfl (congrArg Value.bool (decide_eq_decide.2 Ab)) BB))))) rfl
 rintro-u3 h;subst h
 focus
  refine Ay rfl (λaq=>?_) (λaq=>?_);rotate_left;refine kR ?_;rotate_left
 . have N:CD g.procs v k s l.length=SU g.procs s l.length:=by unfold CD;rw [AB Ab,AB Ab,AB Ab,AB Ab,AQ Ab]
   rw [N];unfold SU;have M:=gp (HP.out (· < w.heap.size) va vc pa pc ma mc);unfold Gn at M;cases hq:CA g.procs s with
   | none=>
    rw [hq] at M;dsimp only at M;refine kC (M.out _ Af) ?_;rintro _ a4 ⟨⟨⟩,ar⟩;have X:=X.ext ar;refine kR ?_;exact ⟨rfl,X⟩
   | some i=>
    rw [hq] at M;dsimp only at M;have hi:=P8 hq;obtain ⟨kb,ko,rfl,kS,O⟩:=G.get (by intro e;rw [e] at hi;simp at hi);obtain ⟨qa,qc,ba,bc,r0,-,-⟩:=O i g.procs[i] (gm hi);have hm:((g.procs[i]?.map λp=>p.params.length).getD 0)=g.procs[i].params.length:=by rw [gm hi];rfl
    dsimp only;rw [hm];clear O hm hq;generalize g.procs[i]=y at *
    focus
     refine kC (M.out _ Af) ?_;rintro _ Z ⟨⟨⟩,au⟩;revert V X Y r0;refine eE au ?_;intro V X Y r0;refine eK ?_;refine Aq (λwz=>Ext Z wz) 10 (.pure 0 (.pure 1 (.pure 2 (.pure 3 (.pure 4 (.pure 5 (.pure 6 (.pure 7 (.pure 8 (.pure 9 .tail)))))))))) mixed AT (Aa (Ae (Aa Ag))) ?_;intro av aa _;have U:(λwz=>Ext Z wz) av:=aa;simp only at U;have aw:=V;have ay:=Y;have ab:=r0;have X:=X.ext aa;refine ⟨U,?_⟩;refine eT ?_;refine Tq rfl (Dr ab) (Tq rfl Pz (At rfl (eK ?_)));refine BN rfl (λax=>?_) (λax=>?_);refine kR ?_;rotate_left;refine kR ?_;rotate_left
    . rw [AB Ab];exact ⟨rfl,X⟩
    . rw [AQ Ab];exact ⟨rfl,X⟩
 . have N:CD g.procs v k s l.length=0:=by unfold CD;rw [AB Ab,AB Ab,AB Ab,AB Ab,AB Ab]
   rw [N];exact ⟨rfl,X⟩
set_option maxHeartbeats 8000000 in
def P9 (g:PG) (hg:g.procs.length<=1000000) (k n:Int) (s:lB) (l:List Nd) (hl:l.length<=1000000) (i:Nat) (hi:i<l.length) (v:List VD) (hv:v.length<=1000000) (S S' bm:nP) (va:oA) (vc:Nat) (pa:oA) (pc:Nat) (ma:oA) (mc:Nat) (ka:oA) (kc:Nat) (a:oA) (c:Nat) (w:wD) (h:PDs S w g.procs pa) (ak:rowSits bm w l ka) (hs:VDs S' w v a) :
 Calls prog 146 #[.agg (g.cells va vc pa pc ma mc).toArray,(Nd.mk k n s l).val ka kc,.int .i64 i,.slice a v.length c] w λe w'=>e = .returned (.int .i64 (Pd g.procs v s l.length i (l[i]'hi).name))/\Ext w w':=by
 have X:=iK w;have h:=h.ltA;have ak:=B6 _ _ ak;obtain ⟨xb,xo,rfl,xS,an⟩:=BI ak (by intro e;subst e;simp at hi);obtain ⟨xa,xc,V,-⟩:=an i l[i] (gm hi);clear an ak;have HF:=gp (Ow v hv (l[i]).name);have HP:=gp (Oy g hg s (· < w.heap.size) va vc pa pc ma mc);unfold Gn at HP;unfold Pd;generalize l[i]=x at *;show Calls prog 146 #[.agg (g.cells va vc pa pc ma mc).toArray,.agg #[.int .u8 k,.int .i64 n,str s,.slice (some ⟨xb,xo,none⟩) l.length kc],.int .i64 i,.slice a v.length c] w _;generalize D8 v x.name=o at *;cases o with
 | none=>
  dsimp only [Option.isSome,Option.getD] at HF;refine Ad func146 ntmps146 rfl rfl (cS (eB [_,_,_,_,_,_] ?_));intro b1 w2 _ x5 _ _;revert hs X V;refine eE x5 ?_;intro hs X V;refine eB [_,_,_,_] ?_;intro b8 w9 cd bn _ _;revert hs X V;refine eE bn ?_;intro hs X V;refine eK ?_;refine C1 (Pw V) (cC rfl (HF.out _ _ _ _ Af) ?_);rintro _ ce ⟨⟨⟩,bo⟩;have X:=X.ext bo;refine eK ?_;refine xA [_,_,_] ?_;intro cf cg bp;refine eI [_,_,_] bp ?_;intro ch _ bq _ _;have X:=X.ext bq;refine kR ?_;exact ⟨rfl,X⟩
 | some d=>
  obtain ⟨dn,dk,dl⟩:=d;dsimp only [Option.isSome,Option.getD] at HF ⊢;cases hq:CA g.procs s with
  | none=>
   rw [hq] at HP;dsimp only [Option.bind] at HP ⊢;refine Ad func146 ntmps146 rfl rfl (cS (eB [_,_,_,_,_,_] ?_));intro ci cj af br _ _;revert hs X h V;refine eE br ?_;intro hs X h V;refine eB [_,_,_,_] ?_;intro ck cl ab a0 _ _;revert af hs X h V;refine eE a0 ?_;intro af hs X h V;refine eK ?_;refine C1 (Pw V) (cC rfl (HF.out _ _ _ _ Af) ?_);rintro _ bu ⟨⟨⟩,a1⟩;revert ab af X h;refine eE a1 ?_;intro ab af X h;refine eK ?_;refine xA [_,_,_] ?_;intro bv bw ac;refine Dq [_,_,_] Ac rfl rfl rfl rfl rfl rfl ac rfl ?_;intro bx ac;have Z:=ac.blk;dsimp only at Z;have a2:=ac.ext;revert ab af X h;refine eE a2 ?_;intro ab af X h;refine kC (HP.out _ Af) ?_;rintro _ ao ⟨⟨⟩,a3⟩;revert Z X;refine eE a3 ?_;intro Z X;refine eK ?_;refine Aq (λwz=>Ext ao wz) 13 (.pure 0 (.pure 1 (.pure 2 (.pure 3 (.pure 4 (.pure 5 (.pure 6 (.pure 7 (.pure 8 (.pure 9 (.pure 10 (.pure 11 (.pure 12 .tail))))))))))))) mixed AT (Aa (Aa Ag)) ?_;intro a4 ap _;have ag:(λwz=>Ext ao wz) a4:=ap;simp only at ag;revert Z X;refine eE ap ?_;intro Z X;refine ⟨ag,?_⟩;refine Tq rfl Mv (Tq rfl V3 (Tq rfl Mv (eM rfl (eM rfl (eM rfl (eM rfl (eM rfl (eM rfl (eM rfl (eM rfl (eM rfl (eM rfl (At rfl (kR ?_))))))))))))));exact ⟨rfl,X⟩
  | some j=>
   rw [hq] at HP;have hj:=P8 hq;dsimp only [Option.bind] at HP ⊢;rw [gm hj];dsimp only;obtain ⟨kb,ko,rfl,kS,aq⟩:=h.get (by intro e;rw [e] at hj;simp at hj);obtain ⟨qa,qc,ba,bc,G,ax,-⟩:=aq j g.procs[j] (gm hj);clear aq hq;generalize g.procs[j]=y at *;by_cases hm:l.length=y.params.length
   . rw [AB Ab];obtain ⟨zb,zo,rfl,zS,a5⟩:=ax.get (by intro e;rw [e] at hm;simp only [hH] at hm;omega);have r1:=a5 i (y.params[i]'(by omega)) (gm Ab);rw [gm Ab];dsimp only;clear a5 ax;generalize y.params[i]'(by omega)=q at *;obtain ⟨qn,qk,ql⟩:=q;replace r1:Row w ⟨zb,zo+i*3,none⟩ [str qn,.int .u8 qk,.int .i64 ql]:=r1;dsimp only;refine Ad func146 ntmps146 rfl rfl ?_
     focus
      refine cS (eB [_,_,_,_,_,_] ?_);intro cm cn M bs _ _;revert hs X V h G r1;refine eE bs ?_;intro hs X V h G r1;refine eB [_,_,_,_] ?_;intro co cp N a6 _ _;revert M hs X V h G r1;refine eE a6 ?_;intro M hs X V h G r1;refine eK ?_;refine C1 (Pw V) (cC rfl (HF.out _ _ _ _ Af) ?_);rintro _ bz ⟨⟨⟩,a7⟩;revert N M X h G r1;refine eE a7 ?_;intro N M X h G r1;refine eK ?_;refine xA [_,_,_] ?_;intro b0 b2 ad;refine Dq [_,_,_] Ac rfl rfl rfl rfl rfl rfl ad rfl ?_;intro b3 ad;have O:=ad.blk;dsimp only at O;have a8:=ad.ext;revert N M X h G r1;refine eE a8 ?_;intro N M X h G r1;refine kC (HP.out _ Af) ?_;rintro _ ar ⟨⟨⟩,a9⟩;revert O N M X G r1;refine eE a9 ?_;intro O N M X G r1;refine eK ?_;refine Aq (λwz=>Ext ar wz) 13 (.pure 0 (.pure 1 (.pure 2 (.pure 3 (.pure 4 (.pure 5 (.pure 6 (.pure 7 (.pure 8 (.pure 9 (.pure 10 (.pure 11 (.pure 12 .tail))))))))))))) mixed AT (Aa (Aa Ag)) ?_;intro bb au _;have ah:(λwz=>Ext ar wz) bb:=au;simp only at ah;have al:=N;have ay:=M;have ai:=G;revert O M X G r1;refine eE au ?_;intro O M X G r1;refine ⟨ah,?_⟩;refine Tq rfl Mv (Tq rfl V3 (Tq rfl Mv (eN rfl (AZ Ac rfl rfl rfl) (eN rfl (Ap Ac rfl rfl rfl (λwz hz=>iV (iW al hz) rfl)) (eN rfl (DL Ac rfl rfl) (eN rfl (AZ Ac rfl rfl rfl) (eN rfl (Ap Ac rfl rfl rfl (λwz hz=>iV (iW ay hz) rfl)) (eN rfl (Ar rfl) (eN rfl (AC Ac rfl rfl rfl rfl Ab Ab) (eN rfl (AZ Ac rfl rfl rfl) (eN rfl (Ap Ac rfl rfl rfl (λwz hz=>Row.at (iN ai hz) rfl)) (eN rfl (DL Ac rfl rfl) (At rfl (eK ?_))))))))))))));refine C1 (Pw G) (eK ?_);refine xA [_,_,_] ?_;intro b4 b5 bd;refine eI [_,_,_] bd ?_;intro b6 b7 be _ _;revert O X;refine eE be ?_;intro O X;refine eK ?_;refine BY rfl rfl rfl (λbf=>?_) (λbf=>?_);refine kR ?_;rotate_left;refine eK ?_;refine BN rfl (λbg=>?_) (λbg=>?_)
      refine kR ?_;rotate_left;refine kR ?_;rotate_left
     all_goals exact ⟨by simp [*],X⟩
   . rw [AQ Ab];clear ax;refine Ad func146 ntmps146 rfl rfl (cS (eB [_,_,_,_,_,_] ?_));intro cq cr Y bt _ _;revert hs X V h G;refine eE bt ?_;intro hs X V h G;refine eB [_,_,_,_] ?_;intro ct cu U bh _ _;revert Y hs X V h G;refine eE bh ?_;intro Y hs X V h G;refine eK ?_;refine C1 (Pw V) (cC rfl (HF.out _ _ _ _ Af) ?_);rintro _ b9 ⟨⟨⟩,bi⟩;revert U Y X h G;refine eE bi ?_;intro U Y X h G;refine eK ?_;refine xA [_,_,_] ?_;intro ca cb ae;refine Dq [_,_,_] Ac rfl rfl rfl rfl rfl rfl ae rfl ?_;intro cc ae;have aa:=ae.blk;dsimp only at aa;have bj:=ae.ext;revert U Y X h G;refine eE bj ?_;intro U Y X h G;refine kC (HP.out _ Af) ?_;rintro _ av ⟨⟨⟩,bk⟩;revert aa U Y X G;refine eE bk ?_;intro aa U Y X G;refine eK ?_;refine Aq (λwz=>Ext av wz) 13 (.pure 0 (.pure 1 (.pure 2 (.pure 3 (.pure 4 (.pure 5 (.pure 6 (.pure 7 (.pure 8 (.pure 9 (.pure 10 (.pure 11 (.pure 12 .tail))))))))))))) mixed AT (Aa (Aa Ag)) ?_;intro bl aw _;have aj:(λwz=>Ext av wz) bl:=aw;simp only at aj;have am:=U;have az:=Y;have ai:=G;revert aa X;refine eE aw ?_;intro aa X;refine ⟨aj,?_⟩;refine Tq rfl Mv (Tq rfl V3 (Tq rfl Mv (eN rfl (AZ Ac rfl rfl rfl) (eN rfl (Ap Ac rfl rfl rfl (λwz hz=>iV (iW am hz) rfl)) (eN rfl (DL Ac rfl rfl) (eN rfl (AZ Ac rfl rfl rfl) (eN rfl (Ap Ac rfl rfl rfl (λwz hz=>iV (iW az hz) rfl)) (eN rfl (Ar rfl) (eN rfl (AC Ac rfl rfl rfl rfl Ab Ab) (eN rfl (AZ Ac rfl rfl rfl) (eN rfl (Ap Ac rfl rfl rfl (λwz hz=>Row.at (iN ai hz) rfl)) ?_)))))))))))
     refine eN rfl (DL Ac rfl rfl) (At rfl (kR ?_));all_goals exact ⟨rfl,X⟩
structure FS (c fb m:Nat) (w:wD) (v:Value):Prop where
 cell:Blk w fb [v]
 own:OwnQ (Hi 4) w (λ_=>False) c 165 v (gT m ())
 ne:v.ownBlock≠some fb
 le:c<=w.heap.size
structure Eff (fb:Nat) (w:wD) (v:Value) (w':wD) (v':Value):Prop where
 fr:Fr (λk=>k=fb\/v.ownBlock=some k) w w'
 new:∀g,v'.ownBlock=some g->v.ownBlock=some g\/w.heap.size<=g
def Eff.of_ext (x:Ext w w'):Eff G w v w' v:=⟨⟨x.os,x.tape,x.output,x.size,λ_ M _=>x.block M⟩,λ_ h=>gq h⟩
def Eff.trans {G:Nat} {w w1 N:wD} {v O U:Value} (h:Eff G w v w1 O) (k:Eff G w1 O N U):Eff G w v N U:=by
 have X:=h.fr.size;refine ⟨⟨k.fr.os.trans h.fr.os,k.fr.tape.trans h.fr.tape,k.fr.output.trans h.fr.output,Nat.le_trans X k.fr.size,λi Y M=>?_⟩,λg Z=>?_⟩
 . refine (k.fr.block i Ab (λe=>?_)).trans (h.fr.block i Y M);rcases e with e|e
   . exact M (gq e)
   . rcases h.new i e with e|e
     . exact M (gt e)
     . omega
 . rcases k.new g Z with V|V
   . exact h.new g V
   . exact gt Ab
def Kp (fb:Nat) (w:wD) (v:Value) (b:Nat):Prop:=b<w.heap.size/\b≠fb/\v.ownBlock≠some b
def Kp.eff {M:Value} {b:Nat} (h:Kp G w v b) (k:Eff G w v w' M):Kp G w' M b:=by
 have:=k.fr.size;refine ⟨by have:=h.1;omega,h.2.1,λe=>?_⟩;rcases k.new b e with e|e
 . exact h.2.2 e
 . have:=h.1;omega
def Kp.grow {b:Nat} (h:Kp G w v b) (M:w.heap.size<=w'.heap.size):Kp G w' v b:=⟨Nat.lt_of_lt_of_le h.1 M,h.2⟩
def Kp.not {b:Nat} (h:Kp G w v b):¬(b=G\/v.ownBlock=some b):=λe=>e.elim h.2.1 h.2.2
def FS.ext {c G m:Nat} {w w':wD} {v:Value} (h:FS c G m w v) (x:Ext w w'):FS c G m w' v:=⟨h.cell.ext x,h.own.ext x,h.ne,Nat.le_trans h.le x.size⟩
instance {m:Nat}:LfE w w' (FS c G m w v) (FS c G m w' v):=⟨λx h=>Bk.FS.ext h x⟩
def FS.fr {c G m:Nat} {S:nP} {w w':wD} {v:Value} (h:FS c G m w v) (x:Fr S w w') (M:∀k,S k->k≠G/\v.ownBlock≠some k):FS c G m w' v:=⟨h.cell.fr x (λe=>(M _ e).1 rfl),h.own.fr x (λk N=>⟨id,(M k N).2⟩),h.ne,Nat.le_trans h.le x.size⟩
instance {m:Nat}:LfF S w w' (FS c G m w v) (∀k,S k->k≠G/\v.ownBlock≠some k) (FS c G m w' v):=⟨λx s h=>Bk.FS.fr h x s⟩
def RepR (c fb m:Nat) (w:wD) (v:Value):Ending->wD->Prop:=λe w'=>e = .returned (.tuple #[]) /\ ∃v',FS c fb m w' v'/\Fr (λk=>k=fb\/v.ownBlock=some k) w w' /\ ∀g,v'.ownBlock=some g->v.ownBlock=some g\/w.heap.size<=g
def RepR.ret {m:Nat} {e:Ending} (h:RepR c G m w v e w'):∃v,e = .returned v:=⟨_,h.1⟩
def Hl (c fb m:Nat) (v:Value) (p Y:Int) (s:lB) (S:nP) (pa:oA) (pn pc:Nat) (w:wD) (hm:m<=1000000000) (hn:pn<=1000000) (hp:PathAt S w pa pn pc) (hf:FS c fb m w v) :
 Calls prog 104 #[.int .i64 p,.slice pa pn pc,str s,.int .i64 Y,.pointer (some ⟨fb,0,none⟩)] w (RepR c fb (m+N9 Y) w v):=by
 obtain ⟨N,Z,ad,hc⟩:=hf;have HC:=gp (λ(w:wD) (h:PathAt S w pa pn pc)=>h.clone hn);have X:=iK w;by_cases he:Y=0
 . subst he;have e0:m+N9 0=m:=rfl;rw [e0];refine Ad func104 ntmps104 rfl rfl (cS (C1 Mv (C1 V2 (cT (Lb (Ao (Bi rfl ?_)))))));exact ⟨rfl,v,⟨N,Z,ad,by have:=X.size;omega⟩,(Eff.of_ext X).fr,λ_ h=>gq h⟩
 . have e1:N9 Y=1:=AB he;rw [e1];have af:∀g,v.ownBlock=some g->g<w.heap.size/\g≠fb:=λg hg=>⟨Z.lt hg,λe=>ad (e▸hg)⟩
   have a0:=N.lt;have ae:gT m ()++[()]=gT (m+1) ():=by rw [List.replicate_succ']
   have al:(gT m ()).length<=1000000000:=by simp;omega
   have O:=iP (λk=>k=fb\/v.ownBlock=some k) w;refine Ad func104 ntmps104 rfl rfl (eK ?_);refine Aq (λwz=>Ext w wz) 8 (.pure 0 (.pure 1 (.pure 2 (.pure 4 (.pure 5 (.fork 3 (.pure 6 (.fork 7 .tail .none)) .none)))))) mixed AT Ag ?_;intro aj ag _;have G:(λwz=>Ext w wz) aj:=ag;simp only at G;have am:=N;revert hp N Z O;refine eY ag ?_;intro a1 hp N Z O;refine ⟨G,?_⟩;refine eT ?_;refine tC rfl rfl (HC.out _ Af) ?_;rintro _ a2 ⟨a3,a4,⟨⟩,ak⟩;revert G N Z O;refine eY ak ?_;intro an G N Z O;refine ⟨G,?_⟩;refine Tq rfl (xB [_,_,_,_]) (AE rfl (xS [_,_,_,_]) rfl ?_ aFh AD);rintro _ ao ⟨ap,rfl,M,aq⟩;have ar:=M.blk;have ah:=M.ext;have au:=M.pos;have av:=M.size;revert G N Z O;refine eE ah ?_;intro G N Z O;refine ⟨G,?_⟩;refine At rfl (Ax (GN (R:=λ_=>False) (sh:=Hi 4) (z:=()) Ac Cs rfl rfl rfl rfl AT rfl rfl rfl Af (λ_ h=>by exact h) (i7 Af) ⟨rfl,rfl⟩ Ab Ab) rfl ?_ aFh);rintro _ aw ⟨U,ai,rfl,aa,V,ax,ab⟩;clear hp;have N:=iO N ab (λh=>by have:=af _ h;omega);clear Z;have O:=iU O ab (λk hk=>gq (gt hk));refine eS [_] N ?_;intro ay az ac _;clear N;have aa:=OwnQ.fr aa ac (λk hk=>⟨id,λe=>by (obtain rfl:=gB (show some U=some k from e);rcases V with h|h;have:=af _ h;omega;omega)⟩);have O:=O.fr ac Ab;refine Ak (Bi rfl ?_)
   have a5:=O.size;refine ⟨rfl,_,⟨Af,by rw [<-ae];assumption,λe=>?_,Ab⟩,O,λg hg=>?_⟩
   . obtain rfl:=gB (show some U=some fb from e);rcases V with h|h
     . exact ad h
     . omega
   obtain rfl:=gB (show some U=some g from hg);rcases V with h|h
   . exact gq h
   . exact gt Ab
def Wt (c fb:Nat) (rf:FuncId) (ca:lV) (E:wD->Value->Prop):Prop:=
 (∀w v w' v',E w v->Eff fb w v w' v'->E w' v') /\
 ∀(m:Nat) (v:Value) (err:Int) (s:lB) (S:nP) (pa:oA) (pn pc:Nat) (w:wD),m<=1000000000->pn<=1000000->PathAt S w pa pn pc->FS c fb m w v->E w v ->
  Calls prog rf ([.slice pa pn pc,str s,.int .i64 err]++ca).toArray w (RepR c fb (m+N9 err) w v)
def LR (fb:Nat):Value:=.func (.func 104) #[] #[.pointer (some ⟨fb,0,none⟩)]
def UG (c G N O:Nat) (i:Int):Wt c G 108 [.pointer (some ⟨N,0,none⟩),.pointer (some ⟨O,0,none⟩)] (λw v=>Blk w N [LR G]/\Blk w O [.int .i64 i]/\Kp G w v N/\Kp G w v O):=by
 refine ⟨λw v w' v' ⟨U,V,h3,X⟩ k=>⟨U.fr k.fr h3.not,V.fr k.fr X.not,h3.eff k,X.eff k⟩,?_⟩;rintro m v M s S Z pn pc w hm hn hp hf ⟨U,V,-,-⟩;have HR:=gp (Hl c G m v i M s S Z pn pc w hm hn hp hf);unfold LR at U;clear hp hf;show Calls prog 108 #[.slice Z pn pc,str s,.int .i64 M,.pointer (some ⟨N,0,none⟩),.pointer (some ⟨O,0,none⟩)] w _;have Y:=iP (λk=>k=G\/v.ownBlock=some k) w;refine Ad func108 ntmps108 rfl rfl (eK ?_);refine Ax (A9 (fi:=[]) (ca:=[.pointer (some ⟨G,0,none⟩)]) AT rfl rfl HR.out (λ_ _ h=>h.ret)) rfl ?_ aFh;rintro _ w5 ⟨⟨⟩,aa,V,f3,X⟩;have Y:=iU Y f3 (λk hk=>gq hk);refine Ak (Bi rfl ?_);exact ⟨rfl,_,Af,Y,Af⟩
def UH (c G N O:Nat) (g:PG) (va:oA) (vc:Nat) (U:oA) (V:Nat) (ma:oA) (mc:Nat):Wt c G 109 [.pointer (some ⟨N,0,none⟩),.pointer (some ⟨O,0,none⟩)] (λw v=>Blk w N [LR G]/\Blk w O (g.cells va vc U V ma mc)/\Kp G w v N/\Kp G w v O):=by
 refine ⟨λw v w' v' ⟨X,Y,h3,Z⟩ k=>⟨X.fr k.fr h3.not,Y.fr k.fr Z.not,h3.eff k,Z.eff k⟩,?_⟩;rintro m v M s S pa pn pc w hm hn hp hf ⟨X,Y,-,-⟩;have HR:=gp (Hl c G m v g.procs.length M s S pa pn pc w hm hn hp hf);unfold LR at X;clear hp hf;show Calls prog 109 #[.slice pa pn pc,str s,.int .i64 M,.pointer (some ⟨N,0,none⟩),.pointer (some ⟨O,0,none⟩)] w _;have X2:=iP (λk=>k=G\/v.ownBlock=some k) w;refine Ad func109 ntmps109 rfl rfl (eK ?_);refine Ax (A9 (fi:=[]) (ca:=[.pointer (some ⟨G,0,none⟩)]) AT rfl rfl HR.out (λ_ _ h=>h.ret)) rfl ?_ aFh;rintro _ w5 ⟨⟨⟩,aa,Y,f3,Z⟩;have X2:=iU X2 f3 (λk hk=>gq hk);refine Ak (Bi rfl ?_);exact ⟨rfl,_,Af,X2,Af⟩
def Oz (e:Int):N9 e<=1:=by unfold N9;split<;>omega
def LS (ps:List PD) (v:List VD) (s:lB) (m:Nat):∀(l:List Nd) (i:Nat),FI ps v s m i l<=l.length
 | [],_=>by simp [FI]
 | t::r,i=>by
  have:=Oz (Pd ps v s m i t.name);have:=LS ps v s m r (i+1);simp only [FI,gD];omega
mutual
def RZ (ps:List PD):∀(t:Nd) (v:List VD),t.flt ps v<=t.size
 | .mk k n s l,v=>by
  have h1:=Oz (CD ps v k s l.length);have h2:=LS ps v s l.length l 0;have h3:=Cm l;have h4:=J0 ps l v k s 0;simp only [Nd.flt,iX];split<;>omega
def J0 (ps:List PD):∀(l:List Nd) (v:List VD) (k:Int) (s:lB) (i:Nat),C7 ps v k s i l<=AU l
 | [],_,_,_,_=>by simp [C7]
 | t::r,v,k,s,i=>by
  have:=RZ ps t (CP k s i v);have:=J0 ps r v k s (i+1);simp only [C7,AU];omega
end
def KM (ps:List PD) (v:List VD) (k:Int) (s:lB):∀(l:List Nd) (j i:Nat) (h:j<l.length),C7 ps v k s i (l.take (j+1))=C7 ps v k s i (l.take j)+(l[j]).flt ps (CP k s (i+j) v)
 | t::r,0,i,_=>by simp [C7]
 | t::r,j+1,i,h=>by
  simp only [List.take_succ_cons,C7,List.getElem_cons_succ];rw [KM ps v k s r j (i+1) (by simpa using h)];rw [show i+1+j=i+(j+1) by omega];omega
def LT (ps:List PD) (v:List VD) (s:lB) (m:Nat):∀(l:List Nd) (j i:Nat) (h:j<l.length),FI ps v s m i (l.take (j+1))=FI ps v s m i (l.take j)+N9 (Pd ps v s m (i+j) (l[j]).name)
 | t::r,0,i,_=>by simp [FI]
 | t::r,j+1,i,h=>by
  simp only [List.take_succ_cons,FI,List.getElem_cons_succ];rw [LT ps v s m r j (i+1) (by simpa using h)];rw [show i+1+j=i+(j+1) by omega];omega
def IA:∀(l:List Nd) {j:Nat} (h:j<l.length),AU (l.take j)+l[j].size<=AU l
 | t::r,0,_=>by simp [AU]
 | t::r,j+1,h=>by
  have:=IA r (j:=j) (by simpa using h);simp only [List.take_succ_cons,AU,List.getElem_cons_succ];omega
set_option maxHeartbeats 8000000 in
def Qa (c fb:Nat) (dq:c<=fb) (rf:FuncId) (ca:lV) (bo:BT prog rf=true) (E:wD->Value->Prop) (hR:Wt c fb rf ca E) (g:PG) (hg:g.procs.length<=1000000) (va:oA) (vc:Nat) (pa:oA) (pc:Nat) (ma:oA) (mc:Nat) (N:Nat) :
 ∀(t:Nd) (vs:List VD) (Sv Sp:nP) (ta:oA) (tc:Nat) (la:oA) (lc:Nat) (qa:oA) (qn qc:Nat) (w:wD) (v:Value) (m:Nat),t.size<N->vs.length+t.size<=1000000->qn+t.size<=1000000->m+t.size<=1000000000->t.sits (· < c) w ta->PDs (· < c) w g.procs pa->VDs Sv w vs la->vs.length<=lc->PathAt Sp w qa qn qc->(∀b,Sv b->Kp fb w v b)->(∀b,Sp b->Kp fb w v b)->FS c fb m w v->E w v ->
  Calls prog 107 #[.agg (g.cells va vc pa pc ma mc).toArray,t.val ta tc,.slice qa qn qc,.slice la vs.length lc,.func (.func rf) #[] ca.toArray] w (RepR c fb (m+t.flt g.procs vs) w v):=by
 induction N with
 | zero=>intro t vs Sv Sp ta tc la lc qa qn qc w v m h;omega
 | succ N ih=>
  rintro ⟨k,n,s,l⟩ vs Sv Sp ta tc la lc qa qn qc w v m hN ck cl cm V M O bd U be bf hF hE;have hz:(Nd.mk k n s l).size=1+AU l:=by rw [iX]
  have c0:=Cm l;rw [hz] at hN ck cl cm;have IH:=gp ih;have aq:=gp hR.1;have bp:=gp hR.2;have a5:∀b,Sv b -> ¬(b=fb\/v.ownBlock=some b):=λb Z=>(be b Z).not
  have a6:∀b,Sp b -> ¬(b=fb\/v.ownBlock=some b):=λb Z=>(bf b Z).not
  have al:∀g,v.ownBlock=some g->c<=g/\g<w.heap.size:=λg hg=>⟨hF.own.ge hg,hF.own.lt hg⟩
  have dr:=hF.cell.lt;have ar:=gp be;have a0:=gp bf;have bq:=gp (YI g hg k n s l ta tc vs Ab (· < c) Sv va vc pa pc ma mc la lc);have a7:=gp (λ(w':wD) (x:Ext w w') (p:PathAt Sp w' qa qn qc)=>bp.out m v (CD g.procs vs k s l.length) s Sp qa qn qc w' Ab Ab p (hF.ext x) (aq.out _ _ _ _ hE (Eff.of_ext x)));have bg:=gp hE;clear ih hR be bf hE hF;have X:=iK w;have X2:=iP (λk=>k=fb\/v.ownBlock=some k) w;have V:=Es V;show Calls prog 107 #[.agg (g.cells va vc pa pc ma mc).toArray,.agg #[.int .u8 k,.int .i64 n,str s,.slice ta l.length tc],.slice qa qn qc,.slice la vs.length lc,.func (.func rf) #[] ca.toArray] w _;refine Ad func107 ntmps107 rfl rfl (cS (eB [_,_,_,_,_,_] ?_));intro b1 w2 Y x5 p6 z7;revert M O U X X2 V;refine eE x5 ?_;intro M O U X X2 V;refine eB [_,_,_,_] ?_;intro b8 w9 G cn ds dt;revert Y M O U X X2 V;refine eE cn ?_;intro Y M O U X X2 V;refine eK ?_;refine Aq (λwz=>Ext w9 wz) 8 (.pure 0 (.pure 1 (.pure 2 (.pure 3 (.pure 4 (.pure 5 (.pure 6 (.fork 7 .tail .none)))))))) mixed AT (Aa Ag) ?_;intro co br _;have ah:(λwz=>Ext w9 wz) co:=br;simp only at ah;have ac:=G;have ai:=Y;revert G Y M O U X X2 V;refine eY br ?_;intro du G Y M O U X X2 V;refine ⟨ah,?_⟩;refine eT ?_;refine Tq rfl (xL [_,_,_,_,_,_] (λwz hz=>(iW ai hz))) (Tq rfl (xL [_,_,_,_] (λwz hz=>(iW ac hz))) (Tq rfl Mv (tC rfl rfl (bq.out _ Af Af) ?_)));rintro _ dv ⟨⟨⟩,cp⟩;revert ah G Y M O U X X2 V;refine eY cp ?_;intro z22 ah G Y M O U X X2 V;refine ⟨ah,?_⟩;refine At rfl (Ax (A9 (fi:=[]) (ca:=ca) bo rfl rfl (a7.out _ Af Af) (λ_ _ h=>h.ret)) rfl ?_ aFh)
  rintro _ a1 ⟨⟨⟩,an,a2,aj,a3⟩;have z28:=aj.size;have G:=iO G aj (λh=>by (rcases h with h|h;omega;have:=al _ h;omega));have Y:=iO Y aj (λh=>by (rcases h with h|h;omega;have:=al _ h;omega));have M:=PDs.fr M aj (λb Z h=>by (rcases h with h|h;omega;have:=al _ h;omega));have O:=jm O aj (a5);have U:=PathAt.fr U aj (a6);have X2:=iU X2 aj (λk hk=>gq hk);have V:=jh V aj (λb Z h=>by (rcases h with h|h;omega;have:=al _ h;omega));refine cT (Aj ?_);have e1:Eff fb w v a1 an:=⟨X2,λg hg=>(a3 g hg).imp id λh=>by omega⟩;have k1:Kp fb a1 an b1:=⟨Y.lt,Ab,λe=>by rcases a3 _ e with h|h;(have:=al _ h;omega);omega⟩;have k8:Kp fb a1 an b8:=⟨G.lt,Ab,λe=>by rcases a3 _ e with h|h;(have:=al _ h;omega);omega⟩;have EE:=gp (aq.out);have bs:=gp (aq.out _ _ _ _ bg.out e1);have a8:(Nd.mk k n s l).flt g.procs vs=N9 (CD g.procs vs k s l.length)+(if k=50\/k=51 then FI g.procs vs s l.length 0 l else C7 g.procs vs k s 0 l):=by rw [Nd.flt]
  rw [a8];have dw:=Oz (CD g.procs vs k s l.length);clear a8;generalize N9 (CD g.procs vs k s l.length)=m0 at *;clear a7 bq a5 a6 al a3 X2;generalize an=v1 at *;refine FM (ι:=Unit) (λ_=>[(2,.slice qa qn qc),(3,.slice la vs.length lc),(4,.func (.func rf) #[] ca.toArray),(5,.pointer (some ⟨b1,0,none⟩)),(6,.pointer (some ⟨b8,0,none⟩)),(30,.bool (decide (k=50\/k=51)))]) (λ_ w'=>w'=a1) ?_ ?_
  . focus
     refine eK ?_;refine BY rfl rfl rfl (λcq=>?_) (λcq=>?_);refine FB (FB (FB (C1 Ry (Ak ?_))));rotate_left;refine FA (C1 Pg (FA (C1 (Pl G) (FA (C1 V1 (C1 O1 (Ak ?_)))))));rotate_left
    all_goals exact BS () (Am rfl (Am rfl (Am rfl (Am rfl (Am rfl (BL rfl (congrArg Value.bool (by first|exact (decide_eq_true Ab).symm|exact decide_eq_decide.2 Ab)) BB)))))) rfl
  rintro-w0 h;subst h;by_cases hk:k=50\/k=51
  . rw [AQ hk];clear IH;refine VH (Aj (cS (C1 Pf (C1 (Pl G) (C1 Pz (C1 Mv (cT ?_)))))));refine As ?_;refine AG (ι:=Nat×Value) (λx=>[(2,.slice qa qn qc),(3,.slice la vs.length lc),(4,.func (.func rf) #[] ca.toArray),(5,.pointer (some ⟨b1,0,none⟩)),(6,.pointer (some ⟨b8,0,none⟩)),(32,.slice ta l.length tc),(33,.int .i64 l.length),(34,.int .i64 x.1)])
     (λx w'=>x.1<=l.length/\FS c fb (m+m0+FI g.procs vs s l.length 0 (l.take x.1)) w' x.2/\Eff fb w v w' x.2/\Kp fb w' x.2 b1/\Kp fb w' x.2 b8/\Blk w' b8 [.int .u8 k,.int .i64 n,str s,.slice ta l.length tc]/\Blk w' b1 (g.cells va vc pa pc ma mc)/\PDs (· < c) w' g.procs pa/\VDs Sv w' vs la/\PathAt Sp w' qa qn qc/\rowSits (· < c) w' l ta)
     (λx=>l.length-x.1) (0,v1) sB ⟨gC _,a2,e1,k1,k8,G,Y,M,O,U,V⟩ ?_
    clear a2 e1 k1 k8 G Y M O U V bs;rintro ⟨j,vj⟩ w3 ⟨hj,hF,e3,k1,k8,G,Y,M,O,U,V⟩;simp only at hj hF e3 k1 k8 G Y M O U V;by_cases ag:j<l.length
    . have ad:∀g,vj.ownBlock=some g->c<=g/\g<w3.heap.size/\g≠b1/\g≠b8:=λg hg=>⟨hF.own.ge hg,hF.own.lt hg,λe=>k1.2.2 (e▸hg),λe=>k8.2.2 (e▸hg)⟩
      have au:∀b,Sv b -> ¬(b=fb\/vj.ownBlock=some b):=λb Z=>((ar.out b Z).eff e3).not
      have av:∀b,Sp b -> ¬(b=fb\/vj.ownBlock=some b):=λb Z=>((a0.out b Z).eff e3).not
      have aw:∀b,Sv b->b<w3.heap.size:=λb Z=>((ar.out b Z).eff e3).1
      have ax:∀b,Sp b->b<w3.heap.size:=λb Z=>((a0.out b Z).eff e3).1
      have bh:=k1.not;have bi:=k8.not;have cr:=k8.1;have bj:=gp (EE.out _ _ _ _ bg.out e3);have bt:=LS g.procs vs s l.length (l.take j) 0;rw [ij] at bt;have am:=LT g.procs vs s l.length l j 0 ag;rw [iu] at am;obtain ⟨kb,ko,rfl,kS,ak⟩:=BI V (by intro e;subst e;simp at ag);obtain ⟨xa,xc,rx,-⟩:=ak j l[j] (gm ag);have bu:=gp (P9 g hg k n s l Ab j ag vs Ab);have ay:=gp (λ(w':wD) (x:Ext w3 w') (S:nP) (pa:oA) (pn pc:Nat) (hp:pn<=1000000) (p:PathAt S w' pa pn pc)=>bp.out (m+m0+FI g.procs vs s l.length 0 (l.take j)) vj (Pd g.procs vs s l.length j l[j].name) l[j].name S pa pn pc w' Ab hp p (hF.ext x) (aq.out _ _ _ _ bj.out (Eff.of_ext x)));have E3:=gp e3;clear ak hF e3;have az:m+m0+FI g.procs vs s l.length 0 (l.take (j+1))=m+m0+FI g.procs vs s l.length 0 (l.take j)+N9 (Pd g.procs vs s l.length j l[j].name):=by rw [am];omega
      rw [<-az] at ay;clear am az;generalize l[j]=x at *;generalize Pd g.procs vs s l.length j x.name=ex at *;have X3:=iK w3;have X4:=iP (λk=>k=fb\/vj.ownBlock=some k) w3;refine eK ?_;refine eA [_,_,_,_] ?_;intro dx dy ct cu dz d0;revert Y M O U G V X3 X4;refine eE cu ?_;intro Y M O U G V X3 X4;refine C1 Pa (eS [_,_,_,_] ct ?_);intro bv bw ao c1;revert Y M;refine eF ao ?_;intro Y M;have O:=jm O ao (λb Z e=>by have:=aw b Z;omega);have U:=PathAt.fr U ao (λb Z e=>by have:=ax b Z;omega);revert G V X3 X4;refine eF ao ?_;intro G V X3 X4;refine cT (Aq (λwz=>Ext bv wz) 11 (.pure 0 (.pure 1 (.pure 2 (.pure 4 (.pure 5 (.pure 6 (.pure 7 (.pure 8 (.pure 9 (.fork 3 (.fork 10 .tail .none) .none)))))))))) mixed AT (Ae (Aa (Aa (Ae (Aa (Aa Ag)))))) ?_);intro bx a9 _;have aa:(λwz=>Ext bv wz) bx:=a9;simp only at aa;have cj:=bw;have ai:=Y;have ac:=G;revert Y M O U G V X3 X4;refine eY a9 ?_;intro c2 Y M O U G V X3 X4;refine ⟨aa,?_⟩;refine eT ?_;refine Tq rfl (xL [_,_,_,_,_,_] (λwz hz=>(iW ai hz))) (Tq rfl (xL [_,_,_,_] (λwz hz=>(iW ac hz))) (Tq rfl Mv (Tq rfl Mv (tC rfl rfl (Tk _ _ _ _ _ _ Ab Af) ?_))));rintro _ c3 ⟨c4,c5,⟨⟩,ba,bz⟩;revert aa Y M O U G V X3 X4;refine eY bz ?_;intro c6 aa Y M O U G V X3 X4;refine ⟨aa,?_⟩;refine tC rfl rfl (bu.out _ _ _ _ _ _ _ _ _ _ _ _ _ _ Af Af Af) ?_;rintro _ c7 ⟨⟨⟩,b0⟩;revert ba aa Y M O U G V X3 X4;refine eY b0 ?_;intro c8 ba aa Y M O U G V X3 X4;refine ⟨aa,?_⟩;refine At rfl (Ax (A9 (fi:=[]) (ca:=ca) bo rfl rfl (ay.out _ Af _ _ _ _ Ab Af) (λ_ _ h=>h.ret)) rfl ?_ aFh);rintro _ b2 ⟨⟨⟩,bk,b3,ae,b4⟩;have Y:=iO Y ae (bh);have M:=PDs.fr M ae (λb Z h=>by (rcases h with h|h;omega;have:=ad _ h;omega));have O:=jm O ae (au);have U:=PathAt.fr U ae (av);have G:=iO G ae (bi);have V:=jh V ae (λb Z h=>by (rcases h with h|h;omega;have:=ad _ h;omega));clear rx;have X4:=iU X4 ae (λk hk=>gq hk);refine Ak (Ah (Ai (Al (C1 V7 (C1 Mv (Ak ?_))))))
      have e4:Eff fb w3 vj b2 bk:=⟨X4,λg hg=>(b4 g hg).imp id λh=>by omega⟩
      exact Aw (j+1,_) sB ⟨by simp only;omega,b3,E3.out.trans e4,k1.eff e4,k8.eff e4,G,Y,M,O,U,V⟩ (by simp only;omega)
    . obtain rfl:j=l.length:=by omega
      rw [gF] at hF;refine eK ?_;refine EF rfl ?_;rw [<-Nat.add_assoc];exact ⟨rfl,vj,hF,e3.fr,e3.new⟩
  . rw [AB hk];refine VG (Ao (Ai (cS (C1 Pf (C1 (Pl G) (C1 Pz (C1 Mv (cT ?_))))))));refine As ?_;refine AG (ι:=Nat×Value) (λx=>[(2,.slice qa qn qc),(3,.slice la vs.length lc),(4,.func (.func rf) #[] ca.toArray),(5,.pointer (some ⟨b1,0,none⟩)),(6,.pointer (some ⟨b8,0,none⟩)),(53,.slice ta l.length tc),(54,.int .i64 l.length),(55,.int .i64 x.1)])
     (λx w'=>x.1<=l.length/\FS c fb (m+m0+C7 g.procs vs k s 0 (l.take x.1)) w' x.2/\Eff fb w v w' x.2/\Kp fb w' x.2 b1/\Kp fb w' x.2 b8/\Blk w' b8 [.int .u8 k,.int .i64 n,str s,.slice ta l.length tc]/\Blk w' b1 (g.cells va vc pa pc ma mc)/\PDs (· < c) w' g.procs pa/\VDs Sv w' vs la/\PathAt Sp w' qa qn qc/\rowSits (· < c) w' l ta)
     (λx=>l.length-x.1) (0,v1) sB ⟨gC _,a2,e1,k1,k8,G,Y,M,O,U,V⟩ ?_
    clear a2 e1 k1 k8 G Y M O U V bs;rintro ⟨j,vj⟩ w3 ⟨hj,hF,e3,k1,k8,G,Y,M,O,U,V⟩;simp only at hj hF e3 k1 k8 G Y M O U V;by_cases ag:j<l.length
    . have ad:∀g,vj.ownBlock=some g->c<=g/\g<w3.heap.size/\g≠b1/\g≠b8:=λg hg=>⟨hF.own.ge hg,hF.own.lt hg,λe=>k1.2.2 (e▸hg),λe=>k8.2.2 (e▸hg)⟩
      have au:∀b,Sv b -> ¬(b=fb\/vj.ownBlock=some b):=λb Z=>((ar.out b Z).eff e3).not
      have av:∀b,Sp b -> ¬(b=fb\/vj.ownBlock=some b):=λb Z=>((a0.out b Z).eff e3).not
      have aw:∀b,Sv b->b<w3.heap.size:=λb Z=>((ar.out b Z).eff e3).1
      have ax:∀b,Sp b->b<w3.heap.size:=λb Z=>((a0.out b Z).eff e3).1
      have bh:=k1.not;have bi:=k8.not;have cr:=k8.1;have c9:=hF.cell.lt;have da:=hF.le;have bj:=gp (EE.out _ _ _ _ bg.out e3);have d1:=J0 g.procs (l.take j) vs k s 0;have am:=KM g.procs vs k s l j 0 ag;rw [iu] at am;have d2:=IA l ag;obtain ⟨kb,ko,rfl,kS,ak⟩:=BI V (by intro e;subst e;simp at ag);obtain ⟨xa,xc,rx,sx⟩:=ak j l[j] (gm ag);have db:(CP k s j vs).length<=vs.length+1:=by unfold CP;split<;>(try split)<;>simp
      have HV:=gp (λ(w':wD) (x:Ext w3 w') (bl bm:nP) (b5:oA) (b6:Nat) (b7:oA) (b9:Nat) (V:(l[j]).sits (· < c) w' xa) (M:PDs (· < c) w' g.procs pa) (O:VDs bl w' (CP k s j vs) b5) (bd:(CP k s j vs).length<=b6) (U:PathAt bm w' b7 (qn+1) b9) (cv:∀b,bl b->Sv b\/(w3.heap.size<=b/\b<w'.heap.size)) (cw:∀b,bm b->w3.heap.size<=b/\b<w'.heap.size)=>
       IH.out l[j] (CP k s j vs) bl bm xa xc b5 b6 b7 (qn+1) b9 w' vj (m+m0+C7 g.procs vs k s 0 (l.take j)) Ab Ab Ab Ab V M O bd U
        (λb Z=>by
         rcases cv b Z with h|h
         . exact ((ar.out b h).eff e3).eff (Eff.of_ext x)
         . exact ⟨h.2,Ab,λe=>by have:=ad _ e;omega⟩)
        (λb Z=>by have h:=cw b Z;exact ⟨h.2,Ab,λe=>by have:=ad _ e;omega⟩) (hF.ext x) (aq.out _ _ _ _ bj.out (Eff.of_ext x)))
      have az:m+m0+C7 g.procs vs k s 0 (l.take (j+1))=m+m0+C7 g.procs vs k s 0 (l.take j)+(l[j]).flt g.procs (CP k s j vs):=by rw [am];omega
      rw [<-az] at HV;have cx:=gp (YH k n s l (some ⟨kb,ko,none⟩) tc j vs Ab Sv la lc);have E3:=gp e3;clear ak hF e3 am az;generalize CP k s j vs=d3 at *;generalize l[j]=x at *;have X3:=iK w3;have X4:=iP (λk=>k=fb\/vj.ownBlock=some k) w3
      focus
       refine eK ?_;refine eA [_,_,_,_] ?_;intro d4 d5 cy cz d6 d7;revert Y M O U G V sx X3 X4;refine eE cz ?_;intro Y M O U G V sx X3 X4;refine C1 Pa (eS [_,_,_,_] cy ?_);intro cb cc ap dc;revert Y M;refine eF ap ?_;intro Y M;have O:=jm O ap (λb Z e=>by have:=aw b Z;omega);have U:=PathAt.fr U ap (λb Z e=>by have:=ax b Z;omega);revert G V sx X3 X4;refine eF ap ?_;intro G V sx X3 X4;refine cT (Aq (λwz=>Ext cb wz) 10 (.pure 0 (.pure 1 (.pure 2 (.pure 3 (.pure 5 (.pure 6 (.pure 7 (.pure 9 (.fork 4 (.fork 8 .tail .none) .none))))))))) mixed AT (Ae (Aa (Aa (Ae Ag)))) ?_);intro cd bb _;have ab:(λwz=>Ext cb wz) cd:=bb;simp only at ab;have a4:=cc;have ai:=Y;have ac:=G;revert Y M O U G V sx X3 X4;refine eY bb ?_;intro dd Y M O U G V sx X3 X4;refine ⟨ab,?_⟩;refine Tq rfl (xL [_,_,_,_,_,_] (λwz hz=>(iW ai hz))) (Tq rfl (xL [_,_,_,_] (λwz hz=>(iW a4 hz))) (Tq rfl Mv (Tq rfl Mv (Tq rfl (xL [_,_,_,_] (λwz hz=>(iW ac hz))) (eT ?_)))));refine tC rfl rfl (Tk _ _ _ _ _ _ Ab Af) ?_;rintro _ de ⟨df,dg,⟨⟩,bc,ce⟩;revert ab Y M O U G V sx X3 X4;refine eY ce ?_;intro dh ab Y M O U G V sx X3 X4;refine ⟨ab,?_⟩;refine tC rfl rfl (cx.out _ bd Af) ?_;rintro _ di ⟨dk,dl,⟨⟩,dm,dn,cf⟩;revert bc ab Y M O U G V sx X3 X4;refine eY cf ?_;intro dp bc ab Y M O U G V sx X3 X4;refine ⟨ab,?_⟩;refine At rfl (cC rfl (HV.out _ Af _ _ _ _ _ _ Af Af Af Ab Af (by (intro b Z;rcases Z with Z|Z;exact gq Z;exact gt ⟨Ab,Ab⟩)) (by (intro b Z;exact ⟨Ab,Ab⟩))) ?_);rintro _ cg ⟨⟨⟩,bn,ch,af,ci⟩;have Y:=iO Y af (bh);have M:=PDs.fr M af (λb Z h=>by (rcases h with h|h;omega;have:=ad _ h;omega));have O:=jm O af (au);have U:=PathAt.fr U af (av);have G:=iO G af (bi);have V:=jh V af (λb Z h=>by (rcases h with h|h;omega;have:=ad _ h;omega));clear rx;have X4:=iU X4 af (λk hk=>gq hk);refine Ak (Ah (Ai (Al (C1 V7 (C1 Mv (Ak ?_))))))
       rotate_left
      have e4:Eff fb w3 vj cg bn:=⟨X4,λg hg=>(ci g hg).imp id λh=>by omega⟩
      exact Aw (j+1,_) sB ⟨by simp only;omega,ch,E3.out.trans e4,k1.eff e4,k8.eff e4,G,Y,M,O,U,V⟩ (by simp only;omega)
    . obtain rfl:j=l.length:=by omega
      rw [gF] at hF;refine cS (C1 V3 (cT (Aj (C6 (BF (Av (Av (AO (Bi rfl ?_)))))))));rw [<-Nat.add_assoc];exact ⟨rfl,vj,hF,e3.fr,e3.new⟩
def ZU (S:nP) (w:wD) (b o:Nat) (p:PD):Prop:= ∃pa pc ba bc,Row w ⟨b,o,none⟩ (p.cells pa pc ba bc)/\VDs S w p.params pa/\p.body.sits S w ba/\p.params.length<=pc
def PDsC (S:nP) (w:wD) (l:List PD) (a:oA):Prop:=Arr S 6 (ZU S) w l a
def PDsC.pds (h:PDsC S w l a):PDs S w l a:=h.mono aFh (λ_ _ _ _ _ ⟨G,pc,ba,bc,h1,h2,h3,_⟩=>⟨G,pc,ba,bc,h1,h2,h3⟩)
def PDsC.ext {S:nP} {w w':wD} {l:List PD} {a:oA} (h:PDsC S w l a) (x:Ext w w'):PDsC S w' l a:=
 h.mono aFh (λ_ _ _ _ _ ⟨G,pc,ba,bc,h1,h2,h3,h4⟩=>⟨G,pc,ba,bc,h1.ext x,h2.ext x,h3.ext x,h4⟩)
instance:LfE w w' (PDsC S w l a) (PDsC S w' l a):=⟨λx h=>Bk.PDsC.ext h x⟩
def PDsC.fr {S T:nP} {w w':wD} {l:List PD} {a:oA} (h:PDsC S w l a) (x:Fr T w w') (G:∀b,S b -> ¬T b):PDsC S w' l a:=
 h.mono aFh (λb _ _ _ M ⟨N,pc,ba,bc,h1,h2,h3,h4⟩=>⟨N,pc,ba,bc,h1.fr x (G b M),h2.fr x G,h3.fr x G,h4⟩)
instance {T:nP}:LfF T w w' (PDsC S w l a) (∀b,S b -> ¬T b) (PDsC S w' l a):=⟨λx s h=>Bk.PDsC.fr h x s⟩
def PDsC.get (h:PDsC S w l a) (G:l≠[]):∃b o,a=some ⟨b,o,none⟩/\S b /\ ∀i p,l[i]? = some p->ZU S w b (o+i*6) p:=by
 rcases h with h|⟨b,o,M,N,O⟩
 . exact absurd h G
 . exact ⟨b,o,M,N,λi v U=>O i v U⟩
def PDsC.ltA (h:PDsC S w l a):PDsC (· < w.heap.size) w l a:=by
 rcases h with h|⟨b,o,V,h2,G⟩
 . exact gq h
 . cases l with
   | nil=>exact gq rfl
   | cons p r=>
    obtain ⟨M,N,O,U,X,-⟩:=G 0 p rfl;refine gt ⟨b,o,V,Cg (X.at0 rfl),λi v Y=>?_⟩;obtain ⟨M,N,O,U,Z,k2,k3,k4⟩:=G i v Y;exact ⟨M,N,O,U,Z,k2.lt2.wide (λ_ h=>h.2),B5 _ _ k3,k4⟩
def EP:Shape PD where
 sz:=6
 rep:=λw S p cs=> ∃pa pc ba bc,cs=p.cells pa pc ba bc/\VDs S w p.params pa/\p.body.sits S w ba/\p.params.length<=pc
 len:=λ⟨_,_,_,_,h,_⟩=>by rw [h];rfl
 one:=λ⟨_,_,_,_,h,_⟩=>by rw [h];rfl
 mono:=λ⟨pa,pc,ba,bc,h,h1,h2,h3⟩ hS hc=>⟨pa,pc,ba,bc,h,h1.move hS hc,Nd.sits_mono hS hc _ ba h2,h3⟩
 lt:=λ⟨pa,pc,ba,bc,h,h1,h2,h3⟩=>⟨pa,pc,ba,bc,h,h1.lt2,Gg _ ba h2,h3⟩
def PDsC.wide {S S':nP} {w:wD} {l:List PD} {a:oA} (h:PDsC S w l a) (G:∀b,S b->S' b):PDsC S' w l a:=
 h.mono G (λ_ _ _ _ _ ⟨M,pc,ba,bc,h1,h2,h3,h4⟩=>⟨M,pc,ba,bc,h1,h2.wide G,iR h3 G,h4⟩)
def OwnL.pdsC {B e:Nat} {len cap:Nat} {xs:List PD} (h:OwnL EP w B e (.slice a len cap) xs) (M:∀b,B<=b->S b):PDsC S w xs a:=by
 by_cases O:xs=[]
 . exact gq O
 . obtain ⟨g,U,V,X,G⟩:=h.rows O;simp only [gR] at V;obtain ⟨rfl,-,-⟩:=V;refine gt ⟨g,0,rfl,M g X,λi x Y=>?_⟩;obtain ⟨cs,Z,pa,pc,ba,bc,rfl,h1,h2,h3⟩:=G i x Y;exact ⟨pa,pc,ba,bc,by simpa [EP] using Z,h1.wide (λb N=>M b N.1),h2.wide (λb N=>M b N.1),h3⟩
def Hm:∀(l acc:List VD) (i:Nat) (h:i<l.length),Ci acc (l.take (i+1))=Ci acc (l.take i)+N9 (EW (acc++l.take i) (l[i]).name)
 | v::r,acc,0,_=>by simp [Ci]
 | v::r,acc,i+1,h=>by
  simp only [List.take_succ_cons,Ci,List.getElem_cons_succ];rw [Hm r (acc++[v]) i (by simpa using h)];simp only [gZ,List.singleton_append];omega
def Fd:∀(l acc:List VD),Ci acc l<=l.length
 | [],_=>by simp [Ci]
 | v::r,acc=>by
  have:=Oz (EW acc v.name);have:=Fd r (acc++[v]);simp only [Ci,gD];omega
def LU (ps:List PD) (i:Nat) (p:PD):Nat:=(if (CA ps p.name).getD i<i then 1 else 0)+Ci [] p.params+p.body.flt ps p.params
def KN (ps:List PD):∀(l:List PD) (i j:Nat) (h:j<l.length),DI ps i (l.take (j+1))=DI ps i (l.take j)+LU ps (i+j) l[j]
 | p::r,i,0,_=>by simp [DI,LU]
 | p::r,i,j+1,h=>by
  simp only [List.take_succ_cons,DI,List.getElem_cons_succ];rw [KN ps r (i+1) j (by simpa using h)];rw [show i+1+j=i+(j+1) by omega];omega
def Wu {ps:List PD} {i:Nat} (h:i<ps.length):decide (Gn ps (ps[i]).name<(i:Int))=decide ((CA ps (ps[i]).name).getD i<i):=by
 unfold Gn;cases hq:CA ps (ps[i]).name with
 | none=>
  exfalso;unfold CA at hq;rw [List.findIdx?_eq_none_iff] at hq;have:=hq ps[i] (gA h);simp at this
 | some j=>simp
def VD.ok (v:VD):Bool:=Cj v.name&&if v.kind=1\/v.kind=3 then v.len==0 else if v.kind=2 then decide (1<=v.len)&&decide (v.len<=16) else false
def GZ (l:List VD):Bool:=l.all VD.ok
mutual
def Nd.lim:Nd->Int->Int->Bool×Int
 | .mk _ _ _ l,d,m=>if d=0\/m=0 then (false,m) else CX l (d-1) (m-1)
def CX:List Nd->Int->Int->Bool×Int
 | [],_,m=>(true,m)
 | t::r,d,m=>if (t.lim d m).1 then CX r d (t.lim d m).2 else (false,(t.lim d m).2)
end
def EZ (t:Nd):Bool:=(t.lim 80 2000).1&&t.isBlock
def PD.ok (p:PD):Bool:=Cj p.name&&decide (p.params.length<=8)&&GZ p.params&&EZ p.body
def PG.ok (g:PG):Bool:=decide (g.vars.length<=32)&&decide (g.procs.length<=64)&&GZ g.vars&&g.procs.all PD.ok&&EZ g.main
end Bk
namespace Bk
open Go Go.RowKit Go.Proofs
variable {e G vc:Nat} {l:List (Int×Int)} {w w':wD} {a:oA} {xs:List Int} {g:PG} {S:nP} {ps:List PD} {k:Int}
structure VD.wf (v:VD):Prop where
 name:v.name.length<=9223372036854775807
 k0:0<=v.kind
 k1:v.kind<=255
 l0 : -9223372036854775808<=v.len
 l1:v.len<=9223372036854775807
def Qb {l:List VD} {j:Nat} (h:j<l.length) (G:l[j].ok=false):GZ l=false:=by
 unfold GZ;rw [List.all_eq_false];exact ⟨l[j],gA h,by simp [G]⟩
def R0 {l:List VD} (h:∀j (N:j<l.length),l[j].ok=true):GZ l=true:=by
 unfold GZ;rw [List.all_eq_true];intro x G;obtain ⟨i,M,rfl⟩:=List.mem_iff_getElem.1 G;exact h i M
def LV (l:List VD) (S:nP) (a:oA) (c:Nat) (w:wD) (hl:l.length<=9223372036854775807) (ab:∀v∈l,v.wf) (hs:VDs S w l a) :
 Calls prog 102 #[.slice a l.length c] w λe w'=>e = .returned (.bool (GZ l))/\Ext w w':=by
 refine Ad func102 ntmps102 rfl rfl (eK ?_);refine AG (ι:=Nat) (λj=>[(7,.int .i64 j),(6,.int .i64 l.length),(5,.slice a l.length c)]) (λj w'=>Ext w w'/\j<=l.length /\ ∀i (U:i<l.length),i<j->l[i].ok=true) (λj=>l.length-j) 0 sB ⟨iK _,Ab,Ab⟩ ?_;rintro j w1 ⟨x1,hj,V⟩;have HA:=gp V;clear V;by_cases Y:j<l.length
 . obtain ⟨kb,ko,rfl,-,X⟩:=i8 (hs.ext x1) Ab;have rx:Row w1 ⟨kb,ko+j*3,none⟩ l[j].cells:=X j l[j] (gm Y);have wf:=ab l[j] (gA Y);have ac:=wf.name;have HF:l[j].ok=false->GZ l=false:=Qb Y;have Z:=gp HF;clear HF X;generalize hv:l[j]=v at *;have HE:=gp hv;clear hv;refine eK ?_;refine G6 Cs rfl rfl ?_;intro b2 w2 M;refine I5 Ac rfl rfl rfl rfl rfl rfl (M) rfl ?_;clear M w2;intro w2 M;have h2:=M.blk;have x2:=M.ext;refine kC (JV v.name _ ac) ?_;rintro _ w3 ⟨⟨⟩,x3⟩;have G:Ext w w3:=(by refine iS ?_ Af;refine iS ?_ Af;assumption);have h3:=h2.ext x3;cases hnm:Cj v.name
   . try rw [hnm]
     refine C1 Pt (Ak (Ai (G3 rfl (by rfl) (eK ?_))));refine AP results102 rfl ?_;exact ⟨AV (Z.out (by simp [VD.ok,hnm])).symm,G⟩
   try rw [hnm]
   by_cases N:v.kind=1\/v.kind=3
   . by_cases h0:v.len=0
     . have h:v.ok=true:=by simp [VD.ok,hnm,N,h0]
       rcases N with N|N
       . refine C1 Pt (Ak (Ai (G4 rfl (by rfl) ?_)));refine eK ?_;refine Aw (j+1) sB ⟨G,Ab,λi U aa=>?_⟩ Ab;by_cases e:i=j
         . subst e;exact HE.out▸h
         . exact HA.out i U Ab
       . refine C1 Pt (Ak (Ai (G4 rfl (by rfl) ?_)));refine eK ?_;refine Aw (j+1) sB ⟨G,Ab,λi U aa=>?_⟩ Ab;by_cases e:i=j
         . subst e;exact HE.out▸h
         . exact HA.out i U Ab
     . have h:v.ok=false:=by simp [VD.ok,hnm,N,h0]
       rcases N with N|N
       . refine C1 Pt (Ak (Ai (G4 rfl (by rfl) ?_)));refine eK ?_;refine AP results102 rfl ?_;exact ⟨AV (Z.out h).symm,G⟩
       . refine C1 Pt (Ak (Ai (G4 rfl (by rfl) ?_)));refine eK ?_;refine AP results102 rfl ?_;exact ⟨AV (Z.out h).symm,G⟩
   . have ad:v.kind≠1:=λe=>N (gq e)
     have ae:v.kind≠3:=λe=>N (gt e)
     by_cases O:v.kind=2
     . by_cases af:v.len<1
       . have h:v.ok=false:=by simp [VD.ok,hnm,O];omega
         refine C1 Pt (Ak (Ai (G4 rfl (by rfl) (Ao (Ai (Aj (Al (C1 Pf (C1 MS (Ak (Ai ?_)))))))))));refine As (Aj (Aj (Al (C1 V1 (C1 Pa (Ak (Ai (VG (Al (C1 V1 (C1 Pa (Ak (Ai (VG (Aj (Al (C1 V1 (C1 Pa (Ak (Ai (VH (Aj (Al (C1 Pf (C1 MS (C1 V3 (C1 Mv (By rfl rfl rfl Af rfl (By rfl rfl rfl Af rfl (By rfl rfl rfl Af rfl (C1 Ry (Ak (Ai (G3 rfl (by rfl) (eK ?_)))))))))))))))))))))))))))))))))));refine AP results102 rfl ?_;exact ⟨AV (Z.out h).symm,G⟩
       . by_cases ag:16<v.len
         . have h:v.ok=false:=by simp [VD.ok,hnm,O];omega
           refine C1 Pt (Ak (Ai (G4 rfl (by rfl) (Ao (Ai (Aj (Al (C1 Pf (C1 MS (Ak (Ai ?_)))))))))));refine As (Aj (Aj (Al (C1 V1 (C1 Pa (Ak (Ai (VG (Al (C1 V1 (C1 Pa (Ak (Ai (VG (Aj (Al (C1 V1 (C1 Pa (Ak (Ai (VH (Aj (Al (C1 Pf (C1 MS (C1 V3 (C1 Mv (Bg rfl rfl rfl Af (C1 Pf (Bg rfl rfl rfl Af (C1 MS (Bg rfl rfl rfl Af (eK ?_)))))))))))))))))))))))))))))))));refine AP results102 rfl ?_;exact ⟨AV (Z.out h).symm,G⟩
         . have h:v.ok=true:=by simp [VD.ok,hnm,O];omega
           refine C1 Pt (Ak (Ai (G4 rfl (by rfl) (Ao (Ai (Aj (Al (C1 Pf (C1 MS (Ak (Ai ?_)))))))))));refine As (Aj (Aj (Al (C1 V1 (C1 Pa (Ak (Ai (VG (Al (C1 V1 (C1 Pa (Ak (Ai (VG (Aj (Al (C1 V1 (C1 Pa (Ak (Ai (VH (Aj (Al (C1 Pf (C1 MS (C1 V3 (C1 Mv (Bg rfl rfl rfl Af (C1 Pf (Bg rfl rfl rfl Af (C1 MS (Bg rfl rfl rfl Af (eK ?_)))))))))))))))))))))))))))))))));refine Aw (j+1) sB ⟨G,Ab,λi U aa=>?_⟩ Ab;by_cases e:i=j
           . subst e;exact HE.out▸h
           . exact HA.out i U Ab
     . have h:v.ok=false:=by simp [VD.ok,hnm,ad,O,ae]
       refine C1 Pt (Ak (Ai (G4 rfl (by rfl) (eK ?_))));refine AP results102 rfl ?_;exact ⟨AV (Z.out h).symm,G⟩
 . refine eK ?_;refine AP results102 rfl ?_;exact ⟨AV (R0 (λi U=>HA.out i U Ab)).symm,x1⟩
mutual
def OA:∀(t:Nd) (d m:Int),0<=m->0<=(t.lim d m).2/\(t.lim d m).2<=m
 | .mk _ _ s l,d,m,hm=>by
  simp only [Nd.lim];split
  . exact ⟨hm,Int.le_refl _⟩
  . have:=Nu l (d-1) (m-1) Ab;omega
def Nu:∀(l:List Nd) (d m:Int),0<=m->0<=(CX l d m).2/\(CX l d m).2<=m
 | [],d,m,hm=>by simp only [CX];omega
 | t::r,d,m,hm=>by
  have h1:=OA t d m hm;simp only [CX];split
  . have:=Nu r d (t.lim d m).2 h1.1;omega
  . omega
end
def Qc (l:List Nd) (j:Nat) (h:j<l.length) (d m:Int):CX (l.drop j) d m=if (l[j].lim d m).1 then CX (l.drop (j+1)) d (l[j].lim d m).2 else (false,(l[j].lim d m).2):=by
 rw [gW h,CX]
def UI (N:Nat):∀(t:Nd) (S:nP) (a:oA) (c:Nat) (d m:Int) (M:Nat) (w:wD),t.size<N->t.wf->0<=d->d<=1000000->0<=m->m<=1000000->t.sits S w a -> ¬S M->Blk w M [.int .i64 m] ->
 Calls prog 139 #[t.val a c,.int .i64 d,.pointer (some ⟨M,0,none⟩)] w λe w'=>e = .returned (.bool (t.lim d m).1)/\Blk w' M [.int .i64 (t.lim d m).2]/\Fr (· = M) w w':=by
 induction N with
 | zero=>intro t S a c d m M w h;omega
 | succ N ih=>
  intro t S a c d m M w hN ac ar au av aw hs hS hb;have IH:=gp ih;clear ih;obtain ⟨k,n,s,l⟩:=t;simp only [Nd.wf,iX] at ac hN;simp only [Nd.val,Nd.kind,Nd.num,Nd.name,Nd.kids,Nd.lim];simp only [Nd.sits] at hs;obtain ⟨-,-,-,-,-,ax,ai⟩:=ac;have aq:=hb.lt;by_cases X:d=0\/m=0
  . rw [AQ X];refine Ad func139 ntmps139 rfl rfl (eK ?_);refine Li rfl rfl rfl ?_;intro b1 w1 G;have h1:=G.blk;have x1:=G.ext;have Z:=hb.ext x1;by_cases hd:d=0
    . refine C1 Pa (Ak (Ai (Aj (Aj (Al (C1 Mv (C1 V1 (C1 Mv (By rfl rfl rfl Af rfl (By rfl rfl rfl Af rfl (By rfl rfl rfl Af rfl ?_)))))))))));refine By rfl rfl rfl Af rfl (C1 Ry (Ak (Ai (G3 rfl (by rfl) (eK ?_)))));refine AP results139 rfl ?_;exact ⟨rfl,Z,.of_ext x1⟩
    . have hm:m=0:=by omega
      refine C1 Pa (Ak (Ai (Aj (Aj (Al (C1 Mv (C1 V1 (C1 Mv (Bg rfl rfl rfl Af (C1 Mv (Bg rfl rfl rfl Af (C1 Pn (Bg rfl rfl rfl Af (C1 MS (Bg rfl rfl rfl Af (eK ?_))))))))))))))));refine AP results139 rfl ?_;exact ⟨rfl,Z,.of_ext x1⟩
  . rw [AB X];have hd:d≠0:=λe=>X (gq e)
    have hm:m≠0:=λe=>X (gt e)
    clear X;refine Ad func139 ntmps139 rfl rfl (eK ?_);refine Li rfl rfl rfl ?_;intro b1 w1 G;have h1:=G.blk;have x1:=G.ext;have p1:=G.pos;have Z:=hb.ext x1;have aj:=hs.ext x1;refine C1 Pa (Ak (Ai (Aj (Aj (Al (C1 Mv (C1 V1 (C1 Mv (Bg rfl rfl rfl Af (C1 Mv (Bg rfl rfl rfl Af (C1 Pn (Bg rfl rfl rfl Af (C1 MS (Bg rfl rfl rfl Af (C1 V1 (C1 O1 (Ak (Ai (VG (Ao (Ai (Aj (Al (C1 Mv (C1 Pn (C1 MS (Cy (by exact AK rfl rfl (gz _ Ab)) rfl (C1 Pn (Lj Ac rfl rfl rfl rfl rfl rfl (Z) rfl ?_))))))))))))))))))))))))))))));intro w2 O;have ak:Blk w2 M [.int .i64 (m-1)]:=O.blk;have h2:=h1.put O Ab;have ad:rowSits S w2 l a:=aj.fr O.fr (λb hb e=>hS (e▸hb));have f2:Fr (· = M) w w2:=(Fr.of_ext x1).trans O.fr;have ay:w2.heap.size=b1+1:=by rw [O.size,G.size]
    clear O G;have al:=gp ad;clear ad;refine eK ?_;refine AG (ι:=Nat) (λx=>[(25,.int .i64 x),(24,.int .i64 l.length),(23,.slice a l.length c),(2,.pointer (some ⟨M,0,none⟩)),(1,.int .i64 d)]) (λx w'=>Fr (· = M) w2 w'/\x<=l.length /\ ∃Y,Blk w' M [.int .i64 Y]/\0<=Y/\Y<=1000000/\CX l (d-1) (m-1)=CX (l.drop x) (d-1) Y) (λx=>l.length-x) 0 sB ⟨iP _ _,gC _,m-1,ak,Ab,Ab,rfl⟩ ?_;rintro j w3 ⟨f3,hj,Y,ae,aa,af,ag⟩;have HR:=gp ag;clear ag;by_cases U:j<l.length
    . have am:rowSits S w3 l a:=al.out.fr f3 (λb hb e=>hS (e▸hb));obtain ⟨kb,ko,rfl,az,ab⟩:=BI am (by intro e;subst e;simp at U);obtain ⟨xa,xc,rx,sx⟩:=ab j l[j] (gm U);have an:=BK ai l[j] (gA U);have a0:=D6 (gA U);have HD:=gp (Qc l j U (d-1) Y);clear ab;generalize l[j]=x at *;have ao:=OA x (d-1) Y aa;refine eK ?_;refine G6 Cs rfl rfl ?_;intro b4 w4 V;refine I5 Ac rfl rfl rfl rfl rfl rfl (V) rfl ?_;clear V w4;intro w4 V;have h4:=V.blk;have x4:=V.ext;have ap:=ae.ext x4;refine Ak (Ai (Aj (Al (Cy (by exact BE Ac rfl rfl rfl (by exact λwz hz=>by (try subst hz);exact (i7 Af)) (by rfl)) rfl (C1 Mv (Cy (by exact AK rfl rfl (gz _ Ab)) rfl (C1 Mv (cC rfl (IH.out x S xa xc (d-1) Y M _ Ab an Ab Ab aa af (sx.ext x4) hS ap) ?_))))))));rintro _ w5 ⟨⟨⟩,ah,f5⟩;have f35:Fr (· = M) w2 w5:=f3.trans ((Fr.of_ext x4).trans f5);cases X:(x.lim (d-1) Y).1
      . try rw [X]
        refine C1 Pt (Ak (Ai (G3 rfl (by rfl) (eK ?_))));refine AP results139 rfl ?_;rw [HR.out,HD.out,X];exact ⟨rfl,ah,f2.trans f35⟩
      . try rw [X]
        refine C1 Pt (Ak (Ai (G4 rfl (by rfl) (eK ?_))));refine Aw (j+1) sB ⟨f35,Ab,(x.lim (d-1) Y).2,ah,ao.1,Ab,?_⟩ Ab;rw [HR.out,HD.out,X];rfl
    . refine eK ?_;refine AP results139 rfl ?_;have:l.drop j=[]:=List.drop_eq_nil_of_le Ab;rw [HR.out,this];exact ⟨rfl,ae,f2.trans f3⟩
def Ext.fr1 {a b c:wD} (h:Ext a b) (k:Fr (· = G) b c) (N:a.heap.size<=G):Ext a c:=
 ⟨k.os.trans (Below.os h),k.tape.trans (Below.tape h),k.output.trans (Below.output h),Nat.le_trans h.size k.size,λi M=>(k.block i (Nat.lt_of_lt_of_le M h.size) Ab).trans (h.block M)⟩
def Wv (t:Nd) (a:oA) (h:t.sits S w a):t.sits (λb=>S b/\b<w.heap.size) w a:=by
 have key:∀N:Nat,(∀(l:List Nd) (a:oA),AU l<N->rowSits S w l a->rowSits (λb=>S b/\b<w.heap.size) w l a):=by
  intro N
  induction N with
  | zero=>intro l a h;omega
  | succ N G=>
   intro l a M h;cases l with
   | nil=>simp [rowSits]
   | cons x r=>
    simp only [rowSits] at h ⊢;obtain ⟨b,o,O,c,rfl,X,U,Y,Z,h3,V,hr⟩:=h;have hb:=Cg U;simp only [AU] at M;have hx:=Nd.size_pos x;obtain ⟨k,n,s,l⟩:=x;simp only [iX] at M;refine ⟨b,o,O,c,rfl,⟨X,hb⟩,U,Y,Z,h3,?_,G r _ Ab hr⟩;simp only [Nd.sits] at V ⊢;exact G l O Ab V
 obtain ⟨k,n,s,l⟩:=t;simp only [Nd.sits] at h ⊢;exact key (AU l+1) l a Ab h
def Qd (t:Nd) (S:nP) (a:oA) (c:Nat) (w:wD) (N:t.wf) (Y:t.sits S w a) :
 Calls prog 103 #[t.val a c] w λe w'=>e = .returned (.bool (EZ t))/\Ext w w':=by
 have O:=Wv t a Y;refine Ad func103 ntmps103 rfl rfl (eK ?_);refine Li rfl rfl rfl ?_;intro b1 w1 M;have h1:=M.blk;have x1:=M.ext;have p1:=M.pos;have z1:=M.size;refine eK ?_;refine G6 Cs rfl rfl ?_;intro b2 U G;refine I5 Ac rfl rfl rfl rfl rfl rfl (G) rfl ?_;clear G U;intro U G;have x2:=G.ext;have h2:=h1.ext x2;have aa:=G.pos;refine Ak (Ai (Aj (Al (Cy (by exact BE Ac rfl rfl rfl (by exact λwz V=>by (try subst V);exact (i7 Af)) (by rfl)) rfl (cC rfl (UI (t.size+1) t _ a c 80 2000 b2 _ Ab N Ab Ab Ab Ab (O.ext (by refine iS ?_ Af;assumption)) (λh=>by omega) G.blk) ?_)))));rintro _ w3 ⟨⟨⟩,-,Z⟩;have X:Ext w w3:=Ext.fr1 (b:=U) (by refine iS ?_ Af;assumption) Z Ab;have h3:=h2.fr Z Ab;cases hq:(t.lim 80 2000).1
 . try rw [hq]
   refine eK ?_;refine AP results103 rfl ?_;exact ⟨AV (by simp [EZ,hq]),X⟩
 . try rw [hq]
   refine C1 Mv (A1 rfl rfl rfl (rfl) (Cy (by exact BE Ac rfl rfl rfl (by exact λwz V=>by (try subst V);exact (i7 Af)) (by rfl)) rfl (A1 rfl rfl rfl (rfl) (cC rfl (Up S t N a c _ (Y.ext X)) ?_))));rintro _ w4 ⟨⟨⟩,x4⟩;refine eK ?_;refine AP results103 rfl ?_;exact ⟨AV (by simp [EZ,hq]),X.trans x4⟩
structure PD.wf (p:PD):Prop where
 name:p.name.length<=9223372036854775807
 len:p.params.length<=9223372036854775807
 params:∀v∈p.params,v.wf
 body:p.body.wf
structure PG.wf (g:PG):Prop where
 nv:g.vars.length<=9223372036854775807
 np:g.procs.length<=9223372036854775807
 vars:∀v∈g.vars,v.wf
 procs:∀p∈g.procs,p.wf
 main:g.main.wf
def Qe {l:List PD} {j:Nat} (h:j<l.length) (G:l[j].ok=false):l.all PD.ok=false:=by
 rw [List.all_eq_false];exact ⟨l[j],gA h,by simp [G]⟩
def R1 {l:List PD} (h:∀j (N:j<l.length),l[j].ok=true):l.all PD.ok=true:=by
 rw [List.all_eq_true];intro x G;obtain ⟨i,M,rfl⟩:=List.mem_iff_getElem.1 G;exact h i M
def YJ (g:PG) (S:nP) (va:oA) (vc:Nat) (pa:oA) (pc:Nat) (ma:oA) (mc:Nat) (w:wD) (h:g.wf) (hs:g.sits S w va pa ma) :
 Calls prog 68 #[.agg (g.cells va vc pa pc ma mc).toArray] w λe w'=>e = .returned (.bool g.ok)/\Ext w w':=by
 have ab:=h.nv;have ah:=h.np;refine Ad func68 ntmps68 rfl rfl ?_;refine eK ?_;refine Li rfl rfl rfl ?_;intro b1 w1 Z;have h1:=Z.blk;have x1:=Z.ext;by_cases c1:32<g.vars.length
 . refine C1 Pa (Ak (Ai (Aj (Aj (Al (C1 Pg (C1 MS (C1 Pz (C1 V5 (C1 Mv (By rfl rfl rfl Ab rfl ?_)))))))))));refine By rfl rfl rfl Ab rfl (By rfl rfl rfl Ab rfl (By rfl rfl rfl Ab rfl (C1 TU (C1 Mv (Be rfl rfl rfl (rfl) rfl (Be rfl rfl rfl (rfl) rfl (Be rfl rfl rfl (rfl) rfl (Be rfl rfl rfl (rfl) rfl (C1 (BM rfl rfl rfl) (Ak (Ai ?_)))))))))));refine G3 rfl (by rfl) ?_;refine eK ?_;refine AP results68 rfl ?_;exact ⟨AV (by simp [PG.ok];omega),x1⟩
 by_cases c2:64<g.procs.length
 . refine C1 Pa (Ak (Ai (Aj (Aj (Al (C1 Pg (C1 MS (C1 Pz (C1 V5 (C1 Mv (Bg rfl rfl rfl Ab ?_)))))))))));refine C1 Pf (Bg rfl rfl rfl Ab (C1 MS (Bg rfl rfl rfl Ab (C1 Pz (Bg rfl rfl rfl Ab (C1 V5 (C1 K5 (C1 Mv (By rfl rfl rfl Ab rfl (By rfl rfl rfl Ab rfl (By rfl rfl rfl Ab rfl ?_)))))))))));refine By rfl rfl rfl Ab rfl (C1 TU (Ak (Ai (G3 rfl (by rfl) ?_))));refine eK ?_;refine AP results68 rfl ?_;exact ⟨AV (by simp [PG.ok];omega),x1⟩
 refine C1 Pa (Ak (Ai (Aj (Aj (Al (C1 Pg (C1 MS (C1 Pz (C1 V5 (C1 Mv (Bg rfl rfl rfl Ab ?_)))))))))));refine C1 Pf (Bg rfl rfl rfl Ab (C1 MS (Bg rfl rfl rfl Ab (C1 Pz (Bg rfl rfl rfl Ab (C1 V5 (C1 K5 (C1 Mv (Bg rfl rfl rfl Ab (C1 Pg (Bg rfl rfl rfl Ab ?_)))))))))));refine C1 MS (Bg rfl rfl rfl Ab (cC rfl (LV g.vars S va vc _ ab h.vars (hs.vars.ext x1)) ?_));rintro _ w2 ⟨⟨⟩,x2⟩;cases hq:GZ g.vars
 . try rw [hq]
   refine Bg rfl rfl rfl Ab (C1 Pt (C1 K5 (Ak (Ai (G3 rfl (by rfl) ?_)))));refine eK ?_;refine AP results68 rfl ?_;exact ⟨AV (by simp [PG.ok,hq]),x1.trans x2⟩
 try rw [hq]
 have h2:=h1.ext x2;refine Bg rfl rfl rfl Ab (C1 Pt (C1 K5 (Ak (Ai (G4 rfl (by rfl) ?_)))));refine eK ?_;refine AG (ι:=Nat) (λj=>[(24,.int .i64 j),(23,.int .i64 g.procs.length),(22,.slice pa g.procs.length pc),(1,.pointer (some ⟨b1,0,none⟩))]) (λj w'=>Ext w2 w'/\j<=g.procs.length /\ ∀i (hi:i<g.procs.length),i<j->g.procs[i].ok=true) (λj=>g.procs.length-j) 0 sB ⟨iK _,Ab,Ab⟩ ?_;rintro j w3 ⟨x3,hj,N⟩;have HA:=gp N;clear N;have M:Ext w w3:=(by refine iS ?_ Af;refine iS ?_ Af;assumption)
 by_cases X:j<g.procs.length
 . have ac:PDs S w3 g.procs pa:=hs.procs.ext M;obtain ⟨kb,ko,rfl,-,O⟩:=i8 ac Ab;obtain ⟨qa,qc,ba,bc,rx,sv,sb⟩:=O j g.procs[j] (gm X);have wf:=h.procs g.procs[j] (gA X);have ad:=wf.name;have ae:=wf.len;have HN:=gp (Qe X);clear O;generalize hv:g.procs[j]=p at *;have HE:=gp hv;clear hv;refine eK ?_;refine G6 Cs rfl rfl ?_;intro b4 w4 G;refine I5 Ac rfl rfl rfl rfl rfl rfl (G) rfl ?_;clear G w4;intro w4 G;have h4:=G.blk;have x4:=G.ext;refine kC (JV p.name _ ad) ?_;rintro _ w5 ⟨⟨⟩,x5⟩;have Y:Ext w w5:=M.trans (x4.trans x5);have U:Ext w3 w5:=x4.trans x5;have h5:=h4.ext x5;cases hnm:Cj p.name
   . try rw [hnm]
     refine C1 Pt (C1 Mv (Be rfl rfl rfl (rfl) rfl (Be rfl rfl rfl (rfl) rfl (Be rfl rfl rfl (rfl) rfl (Be rfl rfl rfl (rfl) rfl (C1 (BM rfl rfl rfl) (C1 Mv (Be rfl rfl rfl (rfl) rfl (Be rfl rfl rfl (rfl) rfl (Be rfl rfl rfl (rfl) rfl (Be rfl rfl rfl (rfl) rfl ?_)))))))))));refine C1 (BM rfl rfl rfl) (C1 Mv (Be rfl rfl rfl (rfl) rfl (Be rfl rfl rfl (rfl) rfl (Be rfl rfl rfl (rfl) rfl (Be rfl rfl rfl (rfl) rfl (C1 (BM rfl rfl rfl) (Ak (Ai (G3 rfl (by rfl) ?_)))))))));refine eK ?_;refine AP results68 rfl ?_;exact ⟨AV (by simp [PG.ok,HN.out (by simp [PD.ok,hnm])]),Y⟩
   try rw [hnm]
   by_cases c3:8<p.params.length
   . refine C1 Pt (C1 Mv (A1 rfl rfl rfl (rfl) (C1 Pf (A1 rfl rfl rfl (rfl) (C1 MS (A1 rfl rfl rfl (rfl) (C1 Pz (A1 rfl rfl rfl (rfl) (C1 V5 (C1 (Bm rfl rfl rfl) (C1 Mv ?_)))))))))));refine By rfl rfl rfl Ab rfl (By rfl rfl rfl Ab rfl (By rfl rfl rfl Ab rfl (By rfl rfl rfl Ab rfl (C1 TU (C1 Mv (Be rfl rfl rfl (rfl) rfl (Be rfl rfl rfl (rfl) rfl (Be rfl rfl rfl (rfl) rfl (Be rfl rfl rfl (rfl) rfl (C1 (BM rfl rfl rfl) (Ak ?_)))))))))));refine Ai (G3 rfl (by rfl) ?_);refine eK ?_;refine AP results68 rfl ?_;exact ⟨AV (by simp [PG.ok,HN.out (by simp [PD.ok,hnm];omega)]),Y⟩
   refine C1 Pt (C1 Mv (A1 rfl rfl rfl (rfl) (C1 Pf (A1 rfl rfl rfl (rfl) (C1 MS (A1 rfl rfl rfl (rfl) (C1 Pz (A1 rfl rfl rfl (rfl) (C1 V5 (C1 (Bm rfl rfl rfl) (C1 Mv ?_)))))))))));refine Bg rfl rfl rfl Ab (C1 Pf (Bg rfl rfl rfl Ab (C1 MS (Bg rfl rfl rfl Ab (cC rfl (LV p.params S qa qc _ ae wf.params (sv.ext U)) ?_)))));rintro _ w6 ⟨⟨⟩,x6⟩;have aa:Ext w w6:=Y.trans x6;have V:Ext w3 w6:=U.trans x6;have h6:=h5.ext x6;cases hq2:GZ p.params
   . try rw [hq2]
     refine Bg rfl rfl rfl Ab (C1 Pt (C1 K5 (C1 Mv (Be rfl rfl rfl (rfl) rfl (Be rfl rfl rfl (rfl) rfl (Be rfl rfl rfl (rfl) rfl (Be rfl rfl rfl (rfl) rfl (C1 (BM rfl rfl rfl) (Ak (Ai (G3 rfl (by rfl) ?_)))))))))));refine eK ?_;refine AP results68 rfl ?_;exact ⟨AV (by simp [PG.ok,HN.out (by simp [PD.ok,hq2])]),aa⟩
   try rw [hq2]
   refine Bg rfl rfl rfl Ab (C1 Pt (C1 K5 (C1 Mv (A1 rfl rfl rfl (rfl) (C1 Pf (A1 rfl rfl rfl (rfl) ?_))))));refine Cy (by exact EG Ac rfl rfl rfl (by exact λwz hz=>by (try subst hz);assumption) (by rfl)) rfl ?_;refine A1 rfl rfl rfl (rfl) (cC rfl (Qd p.body S ba bc _ wf.body (sb.ext V)) ?_);rintro _ w7 ⟨⟨⟩,x7⟩;have af:Ext w w7:=aa.trans x7;cases hq3:EZ p.body
   . try rw [hq3]
     refine A1 rfl rfl rfl (rfl) (C1 Pt (C1 (Bm rfl rfl rfl) (Ak (Ai (G3 rfl (by rfl) ?_)))));refine eK ?_;refine AP results68 rfl ?_;exact ⟨AV (by simp [PG.ok,HN.out (by simp [PD.ok,hq3])]),af⟩
   try rw [hq3]
   have ag:p.ok=true:=by simp [PD.ok,hnm,hq2,hq3];omega
   refine A1 rfl rfl rfl (rfl) (C1 Pt (C1 (Bm rfl rfl rfl) (Ak (Ai (G4 rfl (by rfl) ?_)))));refine eK ?_;refine Aw (j+1) sB ⟨x3.trans (V.trans x7),Ab,λi hi ai=>?_⟩ Ab;by_cases e:i=j
   . subst e;exact HE.out▸ag
   . exact HA.out i hi Ab
 . have h3:=h2.ext x3;refine Aj (Al (C1 V3 (Ak (Ai (Aj (C6 (BF (Av (Av (AO (Ai ?_)))))))))));refine Aj (Al (C1 Pf ?_));refine Cy (by exact EG Ac rfl rfl rfl (by exact λwz hz=>by (try subst hz);assumption) (by rfl)) rfl ?_;refine cC rfl (Qd g.main S ma mc _ h.main (hs.main.ext M)) ?_;rintro _ w4 ⟨⟨⟩,x4⟩;refine eK ?_;refine AP results68 rfl ?_;refine ⟨AV ?_,M.trans x4⟩;have:=R1 (λi hi=>HA.out i hi Ab);simp [PG.ok,hq,this];omega
def Ju:∀l:List Nd,0<=Bq l
 | []=>by simp [Bq]
 | t::r=>by have:=Ju r;simp only [Bq];omega
mutual
def Tl:∀(t:Nd) (d m:Int),t.depth<=d->(t.size:Int)<=m->t.lim d m=(true,m-t.size)
 | .mk _ _ _ l,d,m,hd,hm=>by
  simp only [Nd.depth] at hd;simp only [iX] at hm;have h0:0<=Bq l:=Ju l;unfold Nd.lim;rw [AB Ab,LX l (d-1) (m-1) Ab Ab];simp only [iX];congr 1;omega
def LX:∀(l:List Nd) (d m:Int),Bq l<=d->(AU l:Int)<=m->CX l d m=(true,m-AU l)
 | [],d,m,_,_=>by simp [CX,AU]
 | t::r,d,m,hd,hm=>by
  simp only [Bq] at hd;simp only [AU] at hm;have h1:=Tl t d m Ab Ab;unfold CX;rw [h1];simp only [if_true];rw [LX r d _ Ab Ab];simp only [AU];congr 1;omega
end
mutual
def LY:∀(t:Nd) (d m:Int),0<=d->(t.lim d m).1=true->t.depth<=d
 | .mk _ _ s l,d,m,hd,h=>by
  simp only [Nd.lim] at h;split at h
  . simp at h
  . have:=IB l (d-1) (m-1) Ab h;simp only [Nd.depth];omega
def IB:∀(l:List Nd) (d m:Int),0<=d->(CX l d m).1=true->Bq l<=d
 | [],d,m,hd,_=>by simp only [Bq];exact hd
 | t::r,d,m,hd,h=>by
  simp only [CX] at h;split at h
  . rename_i ht;have h1:=LY t d m hd ht;have h2:=IB r d _ hd h;simp only [Bq];omega
  . simp at h
end
mutual
def Nv:∀(t:Nd) (d m:Int),0<=m->(t.lim d m).1=true->(t.size:Int)+(t.lim d m).2<=m
 | .mk _ _ s l,d,m,hm,h=>by
  simp only [Nd.lim] at h ⊢;split at h
  . simp at h
  . rename_i hn;rw [AB hn];have:=Jv l (d-1) (m-1) Ab h;simp only [iX];omega
def Jv:∀(l:List Nd) (d m:Int),0<=m->(CX l d m).1=true->(AU l:Int)+(CX l d m).2<=m
 | [],d,m,hm,_=>by simp only [CX,AU];omega
 | t::r,d,m,hm,h=>by
  simp only [CX] at h ⊢;split at h
  . rename_i ht;rw [AQ ht];have h1:=Nv t d m hm ht;have h0:=OA t d m hm;have h2:=Jv r d (t.lim d m).2 h0.1 h;simp only [AU];omega
  . simp at h
end
def body_iff {t:Nd}:EZ t=true↔t.isBlock=true/\t.depth<=80/\t.size<=2000:=by
 constructor
 . intro h;simp only [EZ,gu] at h;have G:=Nv t 80 2000 Ab h.1;have M:=OA t 80 2000 Ab;exact ⟨h.2,LY t 80 2000 Ab h.1,Ab⟩
 . rintro ⟨G,M,N⟩;simp only [EZ,gu];refine ⟨?_,G⟩;rw [Tl t 80 2000 M Ab]
def EQ (h:g.ok=true):g.vars.length<=32/\g.procs.length<=64/\GZ g.vars=true/\(∀p∈g.procs,p.ok=true)/\EZ g.main=true:=by
 simp only [PG.ok,gu,decide_eq_true_eq] at h;obtain ⟨⟨⟨⟨G,M⟩,N⟩,O⟩,U⟩:=h;exact ⟨G,M,N,List.all_eq_true.1 O,U⟩
def Ev {p:PD} (h:p.ok=true):Cj p.name=true/\p.params.length<=8/\GZ p.params=true/\EZ p.body=true:=by
 simp only [PD.ok,gu,decide_eq_true_eq] at h;obtain ⟨⟨⟨G,M⟩,N⟩,O⟩:=h;exact ⟨G,M,N,O⟩
def PD.map (f:Nd->Nd) (p:PD):PD:=⟨p.name,p.params,f p.body⟩
def PG.inv (f:Nd->Nd) (q:Bool) (g:PG):PG:=⟨g.vars,g.procs.map (PD.map f),g.main.inv q⟩
def UJ {f:Nd->Nd} (q:Bool) (h:g.wf) (G:g.ok=true) (N:∀p∈g.procs,(f p.body).wf):(g.inv f q).wf:=by
 obtain ⟨V,X,Y,Z,O⟩:=EQ G;refine ⟨h.nv,by simpa [PG.inv] using h.np,h.vars,λp U=>?_,(aB q (g.main.size+1) g.main Ab (gt (body_iff.1 O).1)).wf h.main⟩;obtain ⟨x,M,rfl⟩:=List.mem_map.1 U;have:=h.procs x M;exact ⟨this.name,this.len,this.params,N x M⟩
def Qf (h:g.ok=true):g.main.isBlock=true:=(body_iff.1 (EQ h).2.2.2.2).1
attribute [local irreducible] Go.Calls
def FP {b:Bool} (G:g.wf) (h:g.ok=b) (S:nP) (M:oA) (vc:Nat) (N:oA) (U:Nat) (O:oA) (V:Nat) (w:wD) (X:g.sits S w M N O) :
 Calls prog 68 #[.agg (g.cells M vc N U O V).toArray] w λe w'=>e = .returned (.bool b)/\Ext w w':=by
 have:=YJ g S M vc N U O V w G X;rw [h] at this;exact this
def PG.sits.ltA {S:nP} {w:wD} {g:PG} {G M N:oA} (h:g.sits S w G M N):g.sits (· < w.heap.size) w G M N:=⟨h.vars.lt2.wide λ_ h=>h.2,h.procs.ltA,B5 _ _ h.main⟩
def R2 (f:Nd->Nd) (l:List PD) (j:Nat) (h:j<l.length):(l.take (j+1)).map (PD.map f)=(l.take j).map (PD.map f)++[(l[j]).map f]:=by
 rw [gx h,List.map_append];rfl
def LZ (u:PG) (k:Int) (w:wD):Ending->wD->Prop:=λe w'=> ∃va vc pa pc ma mc,e = .returned (.tuple #[.agg (u.cells va vc pa pc ma mc).toArray,.int .i64 k])/\u.sits (λb=>w.heap.size<=b/\b<w'.heap.size) w' va pa ma/\PDsC (λb=>w.heap.size<=b/\b<w'.heap.size) w' u.procs pa/\u.vars.length<=vc/\Ext w w'
def PDsC.lt2 {S:nP} {w:wD} {l:List PD} {a:oA} (h:PDsC S w l a):PDsC (λb=>S b/\b<w.heap.size) w l a:=by
 rcases h with h|⟨b,o,N,O,M⟩
 . exact gq h
 . cases l with
   | nil=>exact gq rfl
   | cons v r=>
    obtain ⟨_,_,_,_,G,-,-⟩:=M 0 v rfl;refine gt ⟨b,o,N,⟨O,Cg (Row.at0 G rfl)⟩,λi x U=>?_⟩;obtain ⟨V,X,Y,Z,G,hv,hs,hc⟩:=M i x U;exact ⟨V,X,Y,Z,G,hv.lt2,Gg _ _ hs,hc⟩
def Ww {f:Nd->Nd} {q:Bool} {N O:oA} {U V M:Nat} {xs:List PD} {Y S2:nP} (hx:xs=g.procs.map (PD.map f)) (hv:VDs Y w' g.vars a) (hc:g.vars.length<=vc) (ho:OwnL EP w' M e (.slice N xs.length U) xs) (hm:(g.main.inv q).sits S2 w' O) (X:Ext w w') (k1:∀b,Y b->w.heap.size<=b) (k2:∀b,S2 b->w.heap.size<=b) (kM:w.heap.size<=M) :
 LZ (g.inv f q) 0 w (.returned (.tuple #[.agg #[.slice a g.vars.length vc,.slice N xs.length U,.int .u8 (g.main.inv q).kind,.int .i64 (g.main.inv q).num,str (g.main.inv q).name,.slice O (g.main.inv q).kids.length V],.int .i64 0])) w':=by
 subst hx;have Z:=PDsC.wide (PDsC.lt2 (ho.pdsC (S:=λb=>M<=b) (λb hb=>hb))) (S':=λb=>w.heap.size<=b/\b<w'.heap.size) λb h=>⟨Ab,h.2⟩
 exact ⟨a,vc,N,U,O,V,rfl,⟨hv.lt2.wide λb h=>⟨k1 b h.1,h.2⟩,Z.pds,iR (Gg _ _ hm) λb h=>⟨k2 b h.1,h.2⟩⟩,Z,hc,X⟩
def R3 (q:Bool) (am:Nat) (f:Nd->Nd) (bz:BT prog am=true) (g:PG) (a5:g.wf) (a6:g.ok=true) (hf:g.few) (hm:g.main.isBlock=true)
 (HB:∀p∈g.procs,∀(S:nP) (a:oA) (c:Nat) (w:wD),p.body.sits S w a->Calls prog am #[p.body.val a c] w (CopyR (f p.body) w))
 (S:nP) (va:oA) (vc:Nat) (pa:oA) (pc:Nat) (ma:oA) (mc:Nat) (w:wD) (hs:g.sits S w va pa ma) :
 Calls prog 71 #[.agg (g.cells va vc pa pc ma mc).toArray,.func (.func am) #[] #[],.bool q] w (LZ (g.inv f q) 0 w):=by
 have X:=iK w;obtain ⟨nv,np,b0,a7⟩:=hf;have HV:=gp (FP a5 a6);have HI:=gp (Wq q g.main b0 (gt hm));have HC:=gp (If g.vars Ab);have HP:=gp HB;have HQ:=gp a7;clear a5 a6 hm HB a7;have hs:=hs.ltA;refine Ad func71 ntmps71 rfl rfl (cS (eB [_,_,_,_,_,_] ?_));intro b1 w2 h4 x5 p6 z7;revert X hs;refine eE x5 ?_;intro X hs;refine eA [_,_,_,_,_,_] ?_;intro b8 w9 N b2 d8 d9;revert h4 X hs;refine eE b2 ?_;intro h4 X hs;refine kC (HV.out _ _ _ _ _ _ _ _ Af) ?_;rintro _ a8 ⟨⟨⟩,b3⟩;revert N h4 X hs;refine eY b3 ?_;intro ea N h4 X hs;refine C1 Pt (cT (AY rfl (Ao (Ai ?_))));refine FM (ι:=Nat×oA×Nat×oA×Nat) (λx=>[(1,.func (.func am) #[] #[]),(3,.pointer (some ⟨b1,0,none⟩)),(6,.pointer (some ⟨b8,0,none⟩)),(8,.pointer (some ⟨x.1,0,none⟩))])
  (λx w'=>Blk w' x.1 [.slice x.2.1 g.vars.length x.2.2.1,.slice none 0 0,.int .u8 (g.main.inv q).kind,.int .i64 (g.main.inv q).num,str (g.main.inv q).name,.slice x.2.2.2.1 (g.main.inv q).kids.length x.2.2.2.2]/\VDs (λb=>b8<b/\b≠x.1/\b<w'.heap.size) w' g.vars x.2.1/\(g.main.inv q).sits (λb=>b8<b/\b≠x.1/\b<w'.heap.size) w' x.2.2.2.1/\b8<x.1/\x.1<w'.heap.size/\g.vars.length<=x.2.2.1 /\
   Blk w' b1 [.slice va g.vars.length vc,.slice pa g.procs.length pc,.int .u8 g.main.kind,.int .i64 g.main.num,str g.main.name,.slice ma g.main.kids.length mc]/\Blk w' b8 [.slice none 0 0,.slice none 0 0,.int .u8 0,.int .i64 0,str [],.slice none 0 0]/\g.sits (· < w.heap.size) w' va pa ma/\Ext w w') ?_ ?_
 . clear HP HQ HV;have hv:=hs.vars;have ac:=hs.main
   focus
    refine Aq (λwz=>Ext a8 wz) 9 (.pure 0 (.pure 1 (.pure 3 (.pure 4 (.pure 5 (.fork 2 (.fork 6 (.pure 7 (.fork 8 .tail .none)) (.fork 8 (.fork 6 (.pure 7 .tail) .none) .none)) (.fork 8 (.fork 2 (.fork 6 (.pure 7 .tail) .none) .none) .none))))))) mixed AT (Aa Ag) ?_;intro b4 a9 _;have G:(λwz=>Ext a8 wz) b4:=a9;simp only at G;have ba:=h4;revert N h4 X hs hv ac;refine eY a9 ?_;intro eb N h4 X hs hv ac;refine ⟨G,?_⟩;refine eT ?_;refine Tq rfl (xL [_,_,_,_] (λwz hz=>(iW ba hz))) (Tq rfl Mv (AE rfl (AR AT rfl (HC.out _ _ _ _ Af) (λ_ _ h=>h.ret)) rfl ?_ aFh ?kra5));rintro _ cf ⟨ec,ed,⟨⟩,ab,b5,cg⟩;revert G N h4 X hs ac;refine eY b5 ?_;intro ch G N h4 X hs ac;refine ⟨G,?_⟩;refine AE rfl (AR AT rfl (HI.out _ _ _ _ Af) (λ_ _ h=>h.ret)) rfl ?_ aFh ?kra13;rintro _ ci ⟨cj,ck,⟨⟩,af,bb⟩;revert ab G N h4 X hs;refine eY bb ?_;intro cl ab G N h4 X hs;refine ⟨G,?_⟩;refine Tq rfl (xB [_,_,_,_,_,_]) (AE rfl (Bb Cs rfl) rfl ?_ aFh AD);rintro _ cm ⟨cn,rfl,ag⟩;have au:=ag.blk;dsimp only at au;have bc:=ag.ext;have co:=ag.pos;have cp:=ag.size;revert af ab G N h4 X hs;refine eE bc ?_;intro af ab G N h4 X hs;refine ⟨G,?_⟩;refine At rfl (eS [_,_,_,_,_,_] au ?_);intro cq cr bd ct;revert af ab N h4 X hs;refine eF bd ?_;intro af ab N h4 X hs;refine Ak ?_;rotate_left;refine AE rfl (Bb Cs rfl) rfl ?_ aFh AD;rintro _ cu ⟨cv,rfl,ah⟩;have ai:=ah.blk;dsimp only at ai;have be:=ah.ext;have cw:=ah.pos;have cx:=ah.size;revert ab G N h4 X hs ac;refine eE be ?_;intro ab G N h4 X hs ac;refine ⟨G,?_⟩;refine tC rfl rfl (HI.out _ _ _ _ Af) ?_;rintro _ cy ⟨cz,c0,⟨⟩,av,bf⟩;revert ai ab G N h4 X hs;refine eY bf ?_;intro c1 ai ab G N h4 X hs;refine ⟨G,?_⟩;refine Tq rfl (xB [_,_,_,_,_,_]) (At rfl (eS [_,_,_,_,_,_] ai ?_));intro c2 c3 bg c4;revert av ab N h4 X hs;refine eF bg ?_;intro av ab N h4 X hs;refine Ak ?_;rotate_left;refine AE rfl (Bb Cs rfl) rfl ?_ aFh AD
    rintro _ c5 ⟨c6,rfl,aj⟩;have ad:=aj.blk;dsimp only at ad;have bh:=aj.ext;have c7:=aj.pos;have c8:=aj.size;revert G N h4 X hs hv ac;refine eE bh ?_;intro G N h4 X hs hv ac;refine ⟨G,?_⟩;refine tC rfl rfl (HC.out _ _ _ _ Af) ?_;rintro _ c9 ⟨da,db,⟨⟩,ak,bi,dc⟩;revert ad G N h4 X hs ac;refine eY bi ?_;intro dd ad G N h4 X hs ac;refine ⟨G,?_⟩;refine tC rfl rfl (HI.out _ _ _ _ Af) ?_;rintro _ de ⟨df,dg,⟨⟩,aw,bj⟩;revert ak ad G N h4 X hs;refine eY bj ?_;intro dh ak ad G N h4 X hs;refine ⟨G,?_⟩;refine Tq rfl (xB [_,_,_,_,_,_]) (At rfl (eS [_,_,_,_,_,_] ad ?_));intro di dk bk dl;revert aw ak N h4 X hs;refine eF bk ?_;intro aw ak N h4 X hs;refine Ak ?_;rotate_left
   . exact BS (_,_,_,_,_) sB ⟨Af,VDs.wide Af (λb h=>⟨Ab,Ab,Ab⟩),iR Af (λb h=>⟨Ab,Ab,Ab⟩),Ab,Ab,Af,Af,Af,Af,Af⟩
   . exact BS (_,_,_,_,_) sB ⟨Af,VDs.wide Af (λb h=>⟨Ab,Ab,Ab⟩),iR Af (λb h=>⟨Ab,Ab,Ab⟩),Ab,Ab,Af,Af,Af,Af,Af⟩
   . exact BS (_,_,_,_,_) sB ⟨Af,VDs.wide Af (λb h=>⟨Ab,Ab,Ab⟩),iR Af (λb h=>⟨Ab,Ab,Ab⟩),Ab,Ab,Af,Af,Af,Af,Af⟩
 . clear h4 N hs X;rintro ⟨bq,bl,b6,bm,b7⟩ w1 ⟨Y,U,V,o1,o2,bn,aa,Z,hs,X⟩;simp only at Y U V o1 o2 bn;have hp:=hs.procs;have hz:=gI w1.heap.size;clear hs HV HI HC;refine Aj (cS (C1 Pf (C1 (Pl aa) (C1 Pz (C1 Mv (cT (As ?_)))))));refine AG (ι:=Nat×List PD×oA×Nat) (λx=>[(1,.func (.func am) #[] #[]),(3,.pointer (some ⟨b1,0,none⟩)),(6,.pointer (some ⟨b8,0,none⟩)),(8,.pointer (some ⟨bq,0,none⟩)),(24,.slice pa g.procs.length pc),(25,.int .i64 g.procs.length),(26,.int .i64 x.1)])
    (λx w'=>OwnL EP w' w1.heap.size 116 (.slice x.2.2.1 x.2.1.length x.2.2.2) x.2.1/\x.2.1=(g.procs.take x.1).map (PD.map f)/\x.1<=g.procs.length/\Blk w' bq [.slice bl g.vars.length b6,.slice x.2.2.1 x.2.1.length x.2.2.2,.int .u8 (g.main.inv q).kind,.int .i64 (g.main.inv q).num,str (g.main.inv q).name,.slice bm (g.main.inv q).kids.length b7]/\VDs (λb=>b8<b/\b≠bq/\b<w1.heap.size) w' g.vars bl/\(g.main.inv q).sits (λb=>b8<b/\b≠bq/\b<w1.heap.size) w' bm /\
     Blk w' b1 [.slice va g.vars.length vc,.slice pa g.procs.length pc,.int .u8 g.main.kind,.int .i64 g.main.num,str g.main.name,.slice ma g.main.kids.length mc]/\Blk w' b8 [.slice none 0 0,.slice none 0 0,.int .u8 0,.int .i64 0,str [],.slice none 0 0]/\PDs (· < w.heap.size) w' g.procs pa/\Ext w w'/\w1.heap.size<=w'.heap.size)
    (λx=>g.procs.length-x.1) (0,[],none,0) sB ⟨OwnL.nil,AN,gC _,Y,U,V,aa,Z,hp,X,hz⟩ ?_
   clear Y U V aa Z hp X hz;rintro ⟨j,xs,ra,rc⟩ w3 ⟨M,an,hj,Y,U,V,aa,Z,hp,X,hz⟩;simp only at M an hj Y;have bo:∀g',(gN ra xs.length rc).ownBlock=some g'->w1.heap.size<=g'/\g'<w3.heap.size:=λg' h=>⟨M.ge h,M.lt h⟩
   have ee:xs.length<=1000000:=by rw [an,List.length_map,ij];omega
   refine CW.sub (m:=[(1,.func (.func am) #[] #[]),(3,.pointer (some ⟨b1,0,none⟩)),(6,.pointer (some ⟨b8,0,none⟩)),(8,.pointer (some ⟨bq,0,none⟩)),(24,.slice pa g.procs.length pc),(25,.int .i64 g.procs.length),(26,.int .i64 (j:Int))]) ?_ sB;by_cases aq:j<g.procs.length
   . obtain ⟨kb,ko,rfl,kS,hk⟩:=i8 hp Ab;obtain ⟨xa,xc,ya,yc,rx,vx,sx⟩:=hk j _ (gm aq);have HX:=gp (HP.out _ (gA aq));have ef:=HQ.out _ (gA aq);have HC:=gp (If g.procs[j].params Ab);have a0:xs++[(g.procs[j]).map f]=(g.procs.take (j+1)).map (PD.map f):=by rw [an,R2 f _ j aq]
     clear hk HP HQ an;generalize g.procs[j]=x at *;refine eK ?_;refine xA [_,_,_,_,_,_] ?_;intro eg eh b9;refine eI [_,_,_,_,_,_] b9 ?_;intro bp br cb ei ej;revert M Y U V Z X aa hp vx sx;refine eE cb ?_;intro M Y U V Z X aa hp vx sx;refine cT (Aq (λwz=>Ext bp wz) 13 (.pure 0 (.pure 1 (.pure 2 (.pure 3 (.pure 4 (.pure 5 (.pure 7 (.pure 8 (.pure 9 (.fork 6 (.fork 10 (.pure 11 (.fork 12 .tail .none)) .none) .none)))))))))) mixed AT (Ae (Aa (Aa (Ae (Aa Ag))))) ?_);intro cc ax _;have O:(λwz=>Ext bp wz) cc:=ax;simp only at O;have ao:=br;have ar:=M;have a1:=Y;have a2:=U;have a3:=V;have a4:=Z;revert M Y U V Z X aa hp vx sx;refine eY ax ?_;intro dm M Y U V Z X aa hp vx sx;refine ⟨O,?_⟩;refine eT ?_;refine Tq rfl (xL [_,_,_,_] (λwz hz=>(iW ao hz))) (tC rfl rfl (HC.out _ _ _ _ Af) ?_);rintro _ dn ⟨dp,dq,⟨⟩,ae,bs,dr⟩;revert O M Y U V Z X aa hp sx;refine eY bs ?_;intro ds O M Y U V Z X aa hp sx;refine ⟨O,?_⟩;refine AE rfl (A9 (fi:=[]) (ca:=[]) bz rfl rfl (HX.out _ _ _ _ Af) (λ_ _ h=>h.ret)) rfl ?_ aFh AD;rintro _ dt ⟨du,dv,⟨⟩,ap,bt⟩;revert ae O M Y U V Z X aa hp;refine eY bt ?_;intro dw ae O M Y U V Z X aa hp;refine ⟨O,?_⟩;refine Tq rfl (xB [_,_,_,_,_,_]) (AE rfl (xS [_,_,_,_,_,_]) rfl ?_ aFh AD);rintro _ dx ⟨dy,rfl,al,dz⟩;have bu:=al.blk;have bv:=al.ext;have d0:=al.pos;have d1:=al.size;revert ap ae O M Y U V Z X aa hp;refine eE bv ?_;intro ap ae O M Y U V Z X aa hp;refine ⟨O,?_⟩;clear ao ar a1 a2 a3 a4 O;refine At rfl (Ax (GE (sh:=EP) (z:=x.map f) Ac Cs rfl rfl rfl rfl AT rfl rfl rfl Af (i7 Af) ⟨_,_,_,_,rfl,VDs.wide Af (λb h=>⟨Ab,λe=>by have:=bo _ e;omega⟩),iR Af (λb h=>⟨Ab,λe=>by have:=bo _ e;omega⟩),Af⟩ Ab Ab) rfl ?_ aFh);rintro _ d2 ⟨d3,bx,rfl,ay,az⟩;have d4:=az.size;clear bu ap ae br M;revert Y U V Z X aa hp;refine eF az ?_;intro Y U V Z X aa hp;refine C1 Pf (eV [_] [_,_,_,_,_,_] Y ?_)
     intro d5 d6 bw d7;clear Y;revert ay U V Z X aa hp;refine eF bw ?_;intro ay U V Z X aa hp;refine Ak (Ah (Ai (Al (C1 V7 (C1 Mv (Ak ?_))))));exact Aw (j+1,xs++[x.map f],some ⟨_,0,none⟩,_) sB ⟨Af,a0,by simp only;omega,Af,U,V,aa,Z,hp,X,Ab⟩ (by simp only;omega)
   . have cd:j=g.procs.length:=by omega
     subst cd;rw [gF] at an;refine eK ?_;refine eS [_,_,_,_,_,_] Z ?_;intro ek el ce _;revert M U V X;refine eF ce ?_;intro M U V X;refine C1 Pa (cT (AM (CU rfl Ac rfl rfl rfl Af rfl rfl ?_)));exact Ww an U bn M V X (λb h=>by omega) (λb h=>by omega) Ab
def OB (h:g.ok=true):g.few:=by
 obtain ⟨U,V,-,G,M⟩:=EQ h;obtain ⟨-,-,X⟩:=body_iff.1 M;refine ⟨Ab,Ab,Ab,λp N=>?_⟩;obtain ⟨-,Y,-,O⟩:=Ev (G p N);obtain ⟨-,-,Z⟩:=body_iff.1 O;exact ⟨Ab,Ab⟩
def PG.inv_id (q:Bool) (g:PG):g.inv id q=⟨g.vars,g.procs,g.main.inv q⟩:=by
 unfold PG.inv;congr 1
 conv=>rhs;rw [<-List.map_id g.procs]
 refine List.map_congr_left λp _=>?_
 obtain ⟨a,b,c⟩:=p;rfl
def aK (G:g.wf) (h:g.ok=true) (S:nP) (M:oA) (vc:Nat) (N:oA) (V:Nat) (O:oA) (X:Nat) (w:wD) (U:g.sits S w M N O) :
 Calls prog 71 #[.agg (g.cells M vc N V O X).toArray,.func (.func 59) #[] #[],.bool false] w (LZ (g.inv id false) 0 w):=
 R3 false 59 id AT g G h (OB h) (Qf h) (λp Y S a c w U=>Jl p.body ((OB h).procs p Y).2 S a c w U) S M vc N V O X w U
def UK {u:PG} {Z N:oA} {O U:Nat} (V:u.sits (λb=>O<=b/\b<U) w' a Z N) (hp:PDsC (λb=>O<=b/\b<U) w' u.procs Z) (hc:u.vars.length<=vc) (X:Ext w w') (hl:w.heap.size<=O) (hh:U<=w'.heap.size):LZ u k w (.returned (.tuple #[.agg #[.slice a u.vars.length vc,.slice Z u.procs.length e,.int .u8 u.main.kind,.int .i64 u.main.num,str u.main.name,.slice N u.main.kids.length G],.int .i64 k])) w':=
 ⟨a,vc,Z,e,N,G,rfl,⟨V.vars.wide λb h=>by omega,PDs.wide V.procs λb h=>by omega,iR V.main λb h=>by omega⟩,PDsC.wide hp λb h=>by omega,hc,X⟩
def Qg (u g:PG) (Z:∀(S:nP) (N:oA) (vc:Nat) (O:oA) (pc:Nat) (U:oA) (mc:Nat) (w:wD),g.sits S w N O U ->
      Calls prog 71 #[.agg (g.cells N vc O pc U mc).toArray,.func (.func 59) #[] #[],.bool false] w (LZ u k w))
 (S:nP) (N:oA) (vc:Nat) (O:oA) (pc:Nat) (U:oA) (mc:Nat) (w:wD) (M:g.sits S w N O U) :
 Calls prog 42 #[.agg (g.cells N vc O pc U mc).toArray] w (LZ u k w):=by
 have X:=iK w;have M:=M.ltA;have Z:=gp Z;refine Ad func42 ntmps42 rfl rfl (cS (eB [_,_,_,_,_,_] ?_));intro b1 w2 h4 x5 p6 z7;revert X M;refine eE x5 ?_;intro X M;refine eA [_,_,_,_,_,_] ?_;intro b8 w9 G aa aj ak;revert h4 X M;refine eE aa ?_;intro h4 X M;refine eK ?_;refine Ax (AR AT rfl (Z.out _ _ _ _ _ _ _ _ Af) (λ_ _ ⟨_,_,_,_,_,_,h⟩=>⟨_,h.1⟩)) rfl ?_ aFh;rintro _ al ⟨ad,ae,af,ag,ah,ai,⟨⟩,V,Y,am,ab⟩;revert G X;refine eE ab ?_;intro G X;refine eK ?_;refine eS [_,_,_,_,_,_] G ?_;intro an ao ac ap;revert V Y X;refine eF ac ?_;intro V Y X;refine eK ?_;refine CU rfl Ac rfl rfl rfl Af rfl rfl ?_;exact UK Af Af Af X Ab Ab
def Qh (h:g.wf) (G:g.ok=true) (S:nP) (M:oA) (vc:Nat) (N:oA) (U:Nat) (O:oA) (V:Nat) (w:wD) (X:g.sits S w M N O) :
 Calls prog 42 #[.agg (g.cells M vc N U O V).toArray] w (LZ (g.inv id false) 0 w):=Qg _ g (aK h G) S M vc N U O V w X
def LenR (n:Nat) (w:wD):Ending->wD->Prop:=λe w'=> ∃a c,e = .returned (.slice a n c)/\Ext w w'
def LenR.ret {n:Nat} {e:Ending} (h:LenR n w e w'):∃v,e = .returned v:=by
 obtain ⟨_,_,h,-⟩:=h;exact ⟨_,h⟩
def VDs.take {S:nP} {w:wD} {l:List VD} {a:oA} (h:VDs S w l a) (i:Nat):VDs S w (l.take i) a:=by
 rcases h with h|⟨b,o,M,N,O⟩
 . exact gq (by rw [h];simp)
 . refine gt ⟨b,o,M,N,λj v G=>O j v ?_⟩;rw [List.getElem?_take] at G;split at G
   . exact G
   . cases G
def J3 (ps:List PD) (K:Nat):∀(l:List PD) (i:Nat),(∀(i:Nat) (p:PD),p∈l->LU ps i p<=K)->DI ps i l<=l.length*K
 | [],_,_=>by simp [DI]
 | p::r,i,h=>by
  have G:=h i p AN;have N:=J3 ps K r (i+1) (λi q M=>h i q (by simp [M]));unfold LU at G;simp only [DI,gD,Nat.add_mul];omega
def L0 {w1:wD} {v M:Value} (x:Fr (λk=>k=G\/v.ownBlock=some k) w w') (h:∀g,M.ownBlock=some g->v.ownBlock=some g\/w1.heap.size<=g) (O:w.heap.size<=w1.heap.size):Eff G w v w' M:=⟨x,λg N=>(h g N).imp id λh=>by omega⟩
def Qi {b:Nat} {v:Value} (h:Blk w b [v]) (G:i6 v=true):PathAt (λ_=>True) w (some ⟨b,0,none⟩) 1 1:=⟨⟨gI _,λe=>by cases e⟩,[v],rfl,by simp [G],gt ⟨b,0,rfl,trivial,h.row⟩⟩
set_option maxHeartbeats 8000000 in
def Jw (g:PG) (ck:g.wf) (bv:g.ok=true) (S:nP) (va:oA) (vc:Nat) (pa:oA) (pc:Nat) (ma:oA) (mc:Nat) (w:wD) (hs:g.sits S w va pa ma) (G:PDsC S w g.procs pa) (cl:g.vars.length<=vc) :
 Calls prog 69 #[.agg (g.cells va vc pa pc ma mc).toArray] w (LenR g.flt w):=by
 have HV:=gp (FP ck bv);have N:=hs.vars.ltV;have O:=B5 _ _ hs.main;have G:=G.ltA;have hs:=hs.ltA;have X:=iK w;refine Ad func69 ntmps69 rfl rfl ?_;refine cS (eB [_,_,_,_,_,_] ?_);intro b1 w2 h4 x5 p6 z7;revert N O G hs X;refine eE x5 ?_;intro N O G hs X;refine eK ?_;refine cC rfl (HV.out _ _ _ _ _ _ _ _ Af) ?_;rintro _ w9 ⟨⟨⟩,x8⟩;revert h4 N O G X;refine eY x8 ?_;intro em h4 N O G X;refine eK ?_;refine eA [_] ?_;intro Z en bd cm eo ep;revert h4 N O G X;refine eE cm ?_;intro h4 N O G X;refine cN (C1 (BW rfl) (xA [_] ?_));intro af eq cn;refine eI [_] cn ?_;intro bo U co er et;revert bd h4 N O G X;refine eE co ?_;intro bd h4 N O G X;refine cT (Aj (cS (C1 Pg (C1 (Pl h4) (C1 Pz (C1 Mv (cT ?_)))))));obtain ⟨o1,o2,-,o4,o5⟩:=EQ bv;have bw:FS w.heap.size Z 0 bo (.slice none 0 0):=⟨bd,OwnQ.nil,by simp [iI],Ab⟩;have k1:Kp Z bo (.slice none 0 0) b1:=⟨Ab,Ab,by simp [iI]⟩;have kR:Kp Z bo (.slice none 0 0) af:=⟨Ab,Ab,by simp [iI]⟩;refine As ?_;refine AG (ι:=Nat×Value) (λx=>[(1,.pointer (some ⟨b1,0,none⟩)),(3,.pointer (some ⟨Z,0,none⟩)),(4,.pointer (some ⟨af,0,none⟩)),(16,.slice va g.vars.length vc),(17,.int .i64 g.vars.length),(18,.int .i64 x.1)])
  (λx w'=>x.1<=g.vars.length/\FS w.heap.size Z (Ci [] (g.vars.take x.1)) w' x.2/\Kp Z w' x.2 b1/\Kp Z w' x.2 af/\Blk w' af [LR Z]/\Blk w' b1 (g.cells va vc pa pc ma mc)/\VDs (· < w.heap.size) w' g.vars va/\g.main.sits (· < w.heap.size) w' ma/\PDsC (· < w.heap.size) w' g.procs pa/\Ext w w')
  (λx=>g.vars.length-x.1) (0,.slice none 0 0) sB ⟨gC _,bw,k1,kR,U,h4,N,O,G,X⟩ ?_
 clear bw k1 kR U h4 N O G X bd hs;rintro ⟨j,vj⟩ w3 ⟨hj,hF,k1,kR,U,h4,N,O,G,X⟩;simp only at hj hF k1 kR U h4 N O G X;by_cases am:j<g.vars.length
 . have V:∀q,vj.ownBlock=some q->w.heap.size<=q/\q<w3.heap.size/\q≠b1/\q≠af:=λq hq=>⟨hF.own.ge hq,hF.own.lt hq,λe=>k1.2.2 (e▸hq),λe=>kR.2.2 (e▸hq)⟩
   have aw:=k1.not;have ax:=kR.not;have bp:=k1.1;have be:=kR.1;have a6:=hF.cell.lt;obtain ⟨kb,ko,rfl,kS,al⟩:=N.get (by intro e;rw [e] at am;simp at am);have r0:=al j g.vars[j] (gm am);have bq:(g.vars.take j).length=j:=by simp;omega
   have bx:=Fd (g.vars.take j) [];have ah:=N.take j;have ay:=gp (Ox (g.vars.take j) Ab g.vars[j].name);rw [bq] at ay;have au:=Hm g.vars [] j am;rw [List.nil_append] at au;have ag:=gp (λ(w':wD) (x:Ext w3 w') (S:nP) (qa:oA) (qn qc:Nat) (hq:qn<=1000000) (p:PathAt S w' qa qn qc)=>Hl w.heap.size Z (Ci [] (g.vars.take j)) vj (-1) (EW (g.vars.take j) g.vars[j].name) g.vars[j].name S qa qn qc w' Ab hq p (hF.ext x));rw [<-au] at ag;clear al hF au bx;have hm:(j:Int)=(j:Int):=rfl;generalize g.vars[j]=x at *;obtain ⟨xn,xk,xl⟩:=x;dsimp only at ay ag;replace r0:Row w3 ⟨kb,ko+j*3,none⟩ [str xn,.int .u8 xk,.int .i64 xl]:=r0;generalize EW (g.vars.take j) xn=ex at *;unfold LR at U;have X3:=iK w3;have X4:=iP (λk=>k=Z\/vj.ownBlock=some k) w3
   focus
    refine eK ?_;refine eA [_,_,_] ?_;intro eu ew cp cq ey ez;revert U O G X h4 N ah X3 X4;refine eE cq ?_;intro U O G X h4 N ah X3 X4;refine C1 Pa (eS [_,_,_] cp ?_);intro bz b0 b2 df;revert U O G X h4 N ah X3 X4;refine eF b2 ?_;intro U O G X h4 N ah X3 X4;refine cT (Aq (λwz=>Ext bz wz) 12 (.pure 0 (.pure 1 (.pure 3 (.pure 4 (.pure 5 (.pure 6 (.pure 7 (.pure 8 (.pure 9 (.pure 10 (.fork 2 (.fork 11 .tail .none) (.fork 11 (.fork 2 .tail .none) .none)))))))))))) mixed AT (Ae (Aa (Aa (Ae (Aa Ag))))) ?_);intro b3 bj _;have ad:(λwz=>Ext bz wz) b3:=bj;simp only at ad;have bf:=b0;have br:=U;have bk:=h4;revert U O G X h4 N ah X3 X4;refine eY bj ?_;intro dg U O G X h4 N ah X3 X4;refine ⟨ad,?_⟩;refine eT ?_;refine Tq rfl (Dn Ac rfl rfl rfl rfl hm Ab) (Tq rfl Pg (Tq rfl (Db bf) ?_));refine AE rfl (xS [_]) rfl ?_ aFh ?kra18;rintro _ dh ⟨di,rfl,a3,dk⟩;have a7:=a3.blk;dsimp only at a7;have b4:=a3.ext;have dl:=a3.pos;have dm:=a3.size;revert ad U O G X h4 N ah X3 X4;refine eE b4 ?_;intro ad U O G X h4 N ah X3 X4;refine ⟨ad,?_⟩;refine tC rfl rfl (ay.out _ _ _ _ ah) ?_;rintro _ dn ⟨⟨⟩,b5⟩;revert a7 ad U O G X h4 N X3 X4;refine eY b5 ?_;intro dp a7 ad U O G X h4 N X3 X4;refine ⟨ad,?_⟩;refine At rfl ?_;refine Ax (A9 (fi:=[]) (ca:=[.pointer (some ⟨Z,0,none⟩)]) AT rfl rfl (ag.out _ Af _ _ _ _ Ab (Qi Af rfl)) (λ_ _ h=>h.ret)) rfl ?_ aFh;rintro _ dq ⟨⟨⟩,cr,dr,ap,ds⟩;have U:=iO U ap (ax);have O:=iL O ap (λb hb h=>by (rcases h with h|h;omega;have:=V _ h;omega));have G:=PDsC.fr G ap (λb hb h=>by (rcases h with h|h;omega;have:=V _ h;omega));have X:=iY X ap (λk hk=>by (rcases hk with h|h;omega;have:=V _ h;omega));have h4:=iO h4 ap (aw);have N:=jm N ap (λb hb h=>by (rcases h with h|h;omega;have:=V _ h;omega));have X4:=iU X4 ap (λk hk=>gq hk);refine Ak (Ah (Ai (Al (C1 V7 (C1 Mv (Ak ?_))))));rotate_left;refine tC rfl rfl (ay.out _ _ _ _ ah) ?_;rintro _ dt ⟨⟨⟩,b6⟩
    revert ad U O G X h4 N X3 X4;refine eY b6 ?_;intro du ad U O G X h4 N X3 X4;refine ⟨ad,?_⟩;refine AE rfl (xS [_]) rfl ?_ aFh AD;rintro _ dv ⟨dw,rfl,a4,dx⟩;have b7:=a4.blk;dsimp only at b7;have b8:=a4.ext;have dy:=a4.pos;have dz:=a4.size;revert ad U O G X h4 N X3 X4;refine eE b8 ?_;intro ad U O G X h4 N X3 X4;refine ⟨ad,?_⟩;refine At rfl ?_;refine Ax (A9 (fi:=[]) (ca:=[.pointer (some ⟨Z,0,none⟩)]) AT rfl rfl (ag.out _ Af _ _ _ _ Ab (Qi Af rfl)) (λ_ _ h=>h.ret)) rfl ?_ aFh;rintro _ d0 ⟨⟨⟩,ct,d2,aq,d3⟩;have U:=iO U aq (ax);have O:=iL O aq (λb hb h=>by (rcases h with h|h;omega;have:=V _ h;omega));have G:=PDsC.fr G aq (λb hb h=>by (rcases h with h|h;omega;have:=V _ h;omega));have X:=iY X aq (λk hk=>by (rcases hk with h|h;omega;have:=V _ h;omega));have h4:=iO h4 aq (aw);have N:=jm N aq (λb hb h=>by (rcases h with h|h;omega;have:=V _ h;omega));have X4:=iU X4 aq (λk hk=>gq hk);refine Ak (Ah (Ai (Al (C1 V7 (C1 Mv (Ak ?_))))));rotate_left
   . have e4:=L0 X4 Af Ab;exact Aw (j+1,_) sB ⟨by simp only;omega,Af,k1.eff e4,kR.eff e4,U,h4,N,O,G,X⟩ (by simp only;omega)
   . have e4:=L0 X4 Af Ab;exact Aw (j+1,_) sB ⟨by simp only;omega,Af,k1.eff e4,kR.eff e4,U,h4,N,O,G,X⟩ (by simp only;omega)
 . obtain rfl:j=g.vars.length:=by omega
   rw [gF] at hF;refine cS (C1 V3 (cT (Aj (C6 (BF (Av (Av (AO (Ai (Aj (cS ?_)))))))))));refine C1 Pf (C1 (Pl h4) (C1 Pz (C1 Mv (cT ?_))));refine As ?_;refine AG (ι:=Nat×Value) (λx=>[(1,.pointer (some ⟨b1,0,none⟩)),(3,.pointer (some ⟨Z,0,none⟩)),(4,.pointer (some ⟨af,0,none⟩)),(38,.slice pa g.procs.length pc),(39,.int .i64 g.procs.length),(40,.int .i64 x.1)])
    (λx w'=>x.1<=g.procs.length/\FS w.heap.size Z (Ci [] g.vars+DI g.procs 0 (g.procs.take x.1)) w' x.2/\Kp Z w' x.2 b1/\Kp Z w' x.2 af/\Blk w' af [LR Z]/\Blk w' b1 (g.cells va vc pa pc ma mc)/\VDs (· < w.heap.size) w' g.vars va/\g.main.sits (· < w.heap.size) w' ma/\PDsC (· < w.heap.size) w' g.procs pa/\Ext w w')
    (λx=>g.procs.length-x.1) (0,vj) sB ⟨gC _,hF,k1,kR,U,h4,N,O,G,X⟩ ?_
   clear hF k1 kR U h4 N O G X am hj;rintro ⟨j,vj⟩ w3 ⟨hj,hF,k1,kR,U,h4,N,O,G,X⟩;simp only at hj hF k1 kR U h4 N O G X;have bx:=Fd g.vars [];by_cases am:j<g.procs.length
   . have V:∀q,vj.ownBlock=some q->w.heap.size<=q/\q<w3.heap.size/\q≠b1/\q≠af:=λq hq=>⟨hF.own.ge hq,hF.own.lt hq,λe=>k1.2.2 (e▸hq),λe=>kR.2.2 (e▸hq)⟩
     have aw:=k1.not;have ax:=kR.not;have bp:=k1.1;have be:=kR.1;have a6:=hF.cell.lt;have b9:=J3 g.procs 2009 (g.procs.take j) 0 (λi p hp=>by
      obtain ⟨c1,c2,-,c4⟩:=Ev (o4 p (List.mem_of_mem_take hp));obtain ⟨-,-,c3⟩:=body_iff.1 c4;have h1:=Fd p.params [];have h2:=RZ g.procs p.body p.params;unfold LU;split<;>omega)
     have e0:(g.procs.take j).length*2009<=64*2009:=Nat.mul_le_mul_right _ (by simp;omega);have au:=KN g.procs g.procs 0 j am;rw [iu] at au;have cu:=Wu am;obtain ⟨c1,c2,-,c4⟩:=Ev (o4 _ (gA am));obtain ⟨-,-,c3⟩:=body_iff.1 c4;have ae:=G.pds;obtain ⟨kb,ko,rfl,kS,al⟩:=G.get (by intro e;rw [e] at am;simp at am);obtain ⟨qa,qc,ba,bc,r0,ab,ac,cv⟩:=al j g.procs[j] (gm am);clear al c4;have cb:=gp (Oy g Ab g.procs[j].name (· < w.heap.size) va vc (some ⟨kb,ko,none⟩) pc ma mc);generalize hM:Ci [] g.vars+DI g.procs 0 (g.procs.take j)=M at *;have e1:M<=1000000:=by omega
     generalize Gn g.procs g.procs[j].name=np at *;generalize g.procs[j]=x at *;refine eK ?_;refine eA [_] ?_;intro av e2 bs cw e3 e5;revert U N O X h4 G ae hF ab ac;refine eE cw ?_;intro U N O X h4 G ae hF ab ac;refine eA [_,_,_,_,_,_] ?_;intro az d4 a8 cc d5 d6;revert bs U N O X h4 G ae hF ab ac;refine eE cc ?_;intro bs U N O X h4 G ae hF ab ac;refine eS [_] bs ?_;intro d7 Y a9 d8;revert a8 U N O X h4 G ae;refine eF a9 ?_;intro a8 U N O X h4 G ae;have hF:=FS.fr hF a9 (λk hk=>⟨Ab,λe=>by have:=V _ e;omega⟩);revert ab ac;refine eF a9 ?_;intro ab ac;refine eS [_,_,_,_,_,_] a8 ?_;intro ak aa bb d9;revert Y U N O X h4 G ae;refine eF bb ?_;intro Y U N O X h4 G ae;have hF:=FS.fr hF bb (λk hk=>⟨Ab,λe=>by have:=V _ e;omega⟩);revert ab ac;refine eF bb ?_;intro ab ac;refine cT (Aj ?_);have an:Kp Z ak vj av:=⟨Ab,Ab,λe=>by have:=V _ e;omega⟩;have ao:Kp Z ak vj az:=⟨Ab,Ab,λe=>by have:=V _ e;omega⟩;have k1:=k1.grow (w':=ak) Ab;have kR:=kR.grow (w':=ak) Ab;have ag:=gp (λ(w':wD) (x':Ext ak w')=>Hl w.heap.size Z M vj j 22 x.name (λ_=>True) none 0 0 w' Ab Ab PathAt.nil (hF.ext x'));rw [show M+N9 22=M+1 from rfl] at ag;refine Dv (ι:=Value) (λ_=>[(1,.pointer (some ⟨b1,0,none⟩)),(3,.pointer (some ⟨Z,0,none⟩)),(4,.pointer (some ⟨af,0,none⟩)),(38,.slice (some ⟨kb,ko,none⟩) g.procs.length pc),(39,.int .i64 g.procs.length),(40,.int .i64 j),(7,.pointer (some ⟨av,0,none⟩)),(8,.pointer (some ⟨az,0,none⟩))]) (λv2 w'=>FS w.heap.size Z (M+(if np<(j:Int) then 1 else 0)) w' v2/\Kp Z w' v2 b1/\Kp Z w' v2 af/\Kp Z w' v2 av/\Kp Z w' v2 az/\Blk w' af [LR Z]/\Blk w' b1 (g.cells va vc (some ⟨kb,ko,none⟩) pc ma mc)/\VDs (· < w.heap.size) w' g.vars va/\g.main.sits (· < w.heap.size) w' ma/\PDsC (· < w.heap.size) w' g.procs (some ⟨kb,ko,none⟩)/\Ext w w'/\Blk w' av [.int .i64 j]/\Blk w' az (x.cells qa qc ba bc)/\VDs (· < w.heap.size) w' x.params qa/\x.body.sits (· < w.heap.size) w' ba) ?_ ?_
     . have X3:=iK ak;have X4:=iP (λk=>k=Z\/vj.ownBlock=some k) ak;unfold LR at U
       focus
        refine Aj (Aq (λwz=>Ext ak wz) 5 (.pure 0 (.pure 1 (.pure 2 (.pure 4 (.fork 3 .tail .none))))) mixed AT (Aa (Aa (Ae (Aa (Aa (Ae (Aa Ag))))))) ?_);intro cx cd _;have a0:(λwz=>Ext ak wz) cx:=cd;simp only at a0;have bg:=aa;have bh:=Y;have bk:=h4;revert aa Y U N O X h4 G ae hF ab ac X3 X4;refine eY cd ?_;intro e6 aa Y U N O X h4 G ae hF ab ac X3 X4;refine ⟨a0,?_⟩;refine Tq rfl (xL [_,_,_,_,_,_] (λwz hz=>(iW bk hz))) ?_;refine eT ?_;refine tC rfl rfl (cb.out _ Af) ?_;rintro _ e7 ⟨⟨⟩,cy⟩;revert a0 aa Y U N O X h4 G hF ab ac X3 X4;refine eY cy ?_;intro e8 a0 aa Y U N O X h4 G hF ab ac X3 X4;refine ⟨a0,?_⟩;refine At rfl ?_;refine eK ?_;refine Ay rfl (λcz=>?_) (λcz=>?_);refine eK ?_;refine Ax (A9 (fi:=[]) (ca:=[.pointer (some ⟨Z,0,none⟩)]) AT rfl rfl (ag.out _ Af) (λ_ _ h=>h.ret)) rfl ?_ aFh;rintro _ ea ⟨⟨⟩,c0,eb,ai,ec⟩;have aa:=iO aa ai (λh=>by (rcases h with h|h;omega;have:=V _ h;omega));have Y:=iO Y ai (λh=>by (rcases h with h|h;omega;have:=V _ h;omega));have U:=iO U ai (ax);have N:=jm N ai (λb hb h=>by (rcases h with h|h;omega;have:=V _ h;omega));have O:=iL O ai (λb hb h=>by (rcases h with h|h;omega;have:=V _ h;omega));have X:=iY X ai (λk hk=>by (rcases hk with h|h;omega;have:=V _ h;omega));have h4:=iO h4 ai (aw);have G:=PDsC.fr G ai (λb hb h=>by (rcases h with h|h;omega;have:=V _ h;omega));clear hF r0;have ab:=jm ab ai (λb hb h=>by (rcases h with h|h;omega;have:=V _ h;omega));have ac:=iL ac ai (λb hb h=>by (rcases h with h|h;omega;have:=V _ h;omega));have X4:=iU X4 ai (λk hk=>gq hk);refine Ak ?_;rotate_left;refine Ao ?_;rotate_left
       . have e4:=L0 X4 Af Ab;exact BS _ sB ⟨by rw [AQ Af];assumption,k1.eff e4,kR.eff e4,an.eff e4,ao.eff e4,U,h4,N,O,G,X,Y,aa,ab,ac⟩
       . exact BS vj sB ⟨by rw [AB Af];exact hF,k1.grow Ab,kR.grow Ab,an.grow Ab,ao.grow Ab,U,h4,N,O,G,X,Y,aa,ab,ac⟩
     . clear aa Y U h4 N O G ae hF r0 ab ac X k1 kR an ao ag cb V aw ax bp be a6;rintro v2 w4 ⟨hF,k1,kR,an,ao,U,h4,N,O,G,X,Y,aa,ab,ac⟩;obtain ⟨d1,bt⟩:∃d1:Nat,d1=(if np<(j:Int) then 1 else 0):=⟨_,rfl⟩
       have ed:d1<=1:=by rw [bt];split<;>omega
       rw [<-bt] at hF;refine Aj (cS (C1 Pf (C1 (Pl aa) (C1 Pz (C1 Mv (cT ?_))))));refine As ?_;refine AG (ι:=Nat×Value) (λy=>[(1,.pointer (some ⟨b1,0,none⟩)),(3,.pointer (some ⟨Z,0,none⟩)),(4,.pointer (some ⟨af,0,none⟩)),(38,.slice (some ⟨kb,ko,none⟩) g.procs.length pc),(39,.int .i64 g.procs.length),(40,.int .i64 j),(7,.pointer (some ⟨av,0,none⟩)),(8,.pointer (some ⟨az,0,none⟩)),(57,.slice qa x.params.length qc),(58,.int .i64 x.params.length),(59,.int .i64 y.1)])
        (λy w'=>y.1<=x.params.length/\FS w.heap.size Z (M+d1+Ci [] (x.params.take y.1)) w' y.2/\Kp Z w' y.2 b1/\Kp Z w' y.2 af/\Kp Z w' y.2 av/\Kp Z w' y.2 az/\Blk w' af [LR Z]/\Blk w' b1 (g.cells va vc (some ⟨kb,ko,none⟩) pc ma mc)/\VDs (· < w.heap.size) w' g.vars va/\g.main.sits (· < w.heap.size) w' ma/\PDsC (· < w.heap.size) w' g.procs (some ⟨kb,ko,none⟩)/\Ext w w'/\Blk w' av [.int .i64 j]/\Blk w' az (x.cells qa qc ba bc)/\VDs (· < w.heap.size) w' x.params qa/\x.body.sits (· < w.heap.size) w' ba)
        (λy=>x.params.length-y.1) (0,v2) sB ⟨gC _,hF,k1,kR,an,ao,U,h4,N,O,G,X,Y,aa,ab,ac⟩ ?_
       clear hF k1 kR an ao U h4 N O G X Y aa ab ac;rintro ⟨i,vi⟩ w5 ⟨hi,hF,k1,kR,an,ao,U,h4,N,O,G,X,Y,aa,ab,ac⟩;simp only at hi hF k1 kR an ao U h4 N O G X Y aa ab ac;have c5:=Fd (x.params.take i) [];have V:∀q,vi.ownBlock=some q->w.heap.size<=q/\q<w5.heap.size/\q≠b1/\q≠af/\q≠av/\q≠az:=λq hq=>⟨hF.own.ge hq,hF.own.lt hq,λe=>k1.2.2 (e▸hq),λe=>kR.2.2 (e▸hq),λe=>an.2.2 (e▸hq),λe=>ao.2.2 (e▸hq)⟩
       have aw:=k1.not;have ax:=kR.not;have bp:=k1.1;have be:=kR.1;have c6:=an.not;have c7:=ao.not;have e9:=ao.1;by_cases a5:i<x.params.length
       . obtain ⟨zb,zo,rfl,zS,al⟩:=ab.get (by intro e;rw [e] at a5;simp at a5);have r0:=al i x.params[i] (gm a5);have bq:(x.params.take i).length=i:=by simp;omega
         have ah:=ab.take i;have ay:=gp (Ox (x.params.take i) Ab x.params[i].name);rw [bq] at ay;have au:=Hm x.params [] i a5;rw [List.nil_append] at au;have bl:M+d1+Ci [] (x.params.take (i+1))=M+d1+Ci [] (x.params.take i)+N9 (EW (x.params.take i) x.params[i].name):=by rw [au];omega
         have ag:=gp (λ(w':wD) (x':Ext w5 w')=>Hl w.heap.size Z (M+d1+Ci [] (x.params.take i)) vi j (EW (x.params.take i) x.params[i].name) x.params[i].name (λ_=>True) none 0 0 w' Ab Ab PathAt.nil (hF.ext x'));rw [<-bl] at ag;clear al hF au bl;have hm:(i:Int)=(i:Int):=rfl;generalize x.params[i]=y at *;obtain ⟨yn,yk,yl⟩:=y;dsimp only at ay ag;replace r0:Row w5 ⟨zb,zo+i*3,none⟩ [str yn,.int .u8 yk,.int .i64 yl]:=r0;generalize EW (x.params.take i) yn=ex at *;unfold LR at U;have X3:=iK w5;have X4:=iP (λk=>k=Z\/vi.ownBlock=some k) w5;refine eK ?_;refine eA [_,_,_] ?_;intro fa fb c8 c9 fc fd;revert U h4 N O G X Y ac aa ab ah X3 X4;refine eE c9 ?_;intro U h4 N O G X Y ac aa ab ah X3 X4;refine C1 Pa (eS [_,_,_] c8 ?_);intro ce cf cg ee;revert U h4 N O G X Y ac aa ab ah X3 X4;refine eF cg ?_;intro U h4 N O G X Y ac aa ab ah X3 X4;refine cT (Aq (λwz=>Ext ce wz) 11 (.pure 0 (.pure 1 (.pure 2 (.pure 3 (.pure 4 (.pure 5 (.pure 6 (.pure 7 (.pure 8 (.pure 9 (.fork 10 .tail .none))))))))))) mixed AT (Ae (Aa (Aa (Ae (Aa (Ae (Aa (Aa (Ae (Aa Ag)))))))))) ?_);intro ch bm _;have ar:(λwz=>Ext ce wz) ch:=bm;simp only at ar;have bi:=cf;have br:=U;have bh:=Y;have bg:=aa;revert U h4 N O G X Y ac aa ab ah X3 X4;refine eY bm ?_;intro ef U h4 N O G X Y ac aa ab ah X3 X4;refine ⟨ar,?_⟩;refine eT ?_;refine Tq rfl (Dn Ac rfl rfl rfl rfl hm Ab) (Tq rfl Pg (Tq rfl (Db bi) ?_));refine tC rfl rfl (ay.out _ _ _ _ ah) ?_;rintro _ eg ⟨⟨⟩,bn⟩;have eh:=bn.size;revert ar U h4 N O G X Y ac aa ab X3 X4;refine eE bn ?_
         intro ar U h4 N O G X Y ac aa ab X3 X4;refine ⟨ar,?_⟩;refine At rfl ?_;refine Ax (A9 (fi:=[]) (ca:=[.pointer (some ⟨Z,0,none⟩)]) AT rfl rfl (ag.out _ Af) (λ_ _ h=>h.ret)) rfl ?_ aFh;rintro _ ei ⟨⟨⟩,da,ej,aj,ek⟩;have U:=iO U aj (ax);have h4:=iO h4 aj (aw);have N:=jm N aj (λb hb h=>by (rcases h with h|h;omega;have:=V _ h;omega));have O:=iL O aj (λb hb h=>by (rcases h with h|h;omega;have:=V _ h;omega));have G:=PDsC.fr G aj (λb hb h=>by (rcases h with h|h;omega;have:=V _ h;omega));have X:=iY X aj (λk hk=>by (rcases hk with h|h;omega;have:=V _ h;omega));have Y:=iO Y aj (c6);have ac:=iL ac aj (λb hb h=>by (rcases h with h|h;omega;have:=V _ h;omega));have aa:=iO aa aj (c7);have ab:=jm ab aj (λb hb h=>by (rcases h with h|h;omega;have:=V _ h;omega));have X4:=iU X4 aj (λk hk=>gq hk);refine Ak (Ah (Ai (Al (C1 V7 (C1 Mv (Ak ?_))))));have e4:=L0 X4 Af Ab;exact Aw (i+1,_) sB ⟨by simp only;omega,Af,k1.eff e4,kR.eff e4,an.eff e4,ao.eff e4,U,h4,N,O,G,X,Y,aa,ab,ac⟩ (by simp only;omega)
       . obtain rfl:i=x.params.length:=by omega
         rw [gF] at hF c5;have a1:=gp (λ(w':wD) (x':Ext w5 w') (h1:x.body.sits (· < w.heap.size) w' ba) (h2:PDs (· < w.heap.size) w' g.procs (some ⟨kb,ko,none⟩)) (h3:VDs (· < w.heap.size) w' x.params qa)=>
          Qa w.heap.size Z Ab 108 [.pointer (some ⟨af,0,none⟩),.pointer (some ⟨av,0,none⟩)] AT _ (UG w.heap.size Z af av j) g Ab va vc (some ⟨kb,ko,none⟩) pc ma mc (x.body.size+1)
           x.body x.params (· < w.heap.size) (λ_=>False) ba bc qa qc none 0 0 w' vi (M+d1+Ci [] x.params) Ab Ab Ab Ab h1 h2 h3 cv PathAt.nil
           (λb hb=>⟨by have:=x'.size;have:=X.size;omega,Ab,λe=>by have:=V _ e;omega⟩) (λ_ h=>h.elim) (hF.ext x') ⟨U.ext x',Y.ext x',kR.grow x'.size,an.grow x'.size⟩)
         have ci:M+d1+Ci [] x.params+x.body.flt g.procs x.params=Ci [] g.vars+DI g.procs 0 (g.procs.take (j+1)):=by
          have db:d1=if (CA g.procs x.name).getD j<j then 1 else 0:=by
           rw [bt];have h:=decide_eq_decide.1 cu;by_cases h1:np<(j:Int)
           . rw [AQ h1,AQ (h.1 h1)]
           . rw [AB h1,AB (λe=>h1 (h.2 e))]
          rw [au,db,LU];omega
         rw [ci] at a1;have ae:=G.pds;have X3:=iK w5;have X4:=iP (λk=>k=Z\/vi.ownBlock=some k) w5;refine eK ?_;refine C1 (BW rfl) (cC rfl (a1.out _ Af Af Af Af) ?_);rintro _ fe ⟨⟨⟩,el,ff,a2,fg⟩;have U:=iO U a2 (ax);have h4:=iO h4 a2 (aw);have N:=jm N a2 (λb hb h=>by (rcases h with h|h;omega;have:=V _ h;omega));have O:=iL O a2 (λb hb h=>by (rcases h with h|h;omega;have:=V _ h;omega));have G:=PDsC.fr G a2 (λb hb h=>by (rcases h with h|h;omega;have:=V _ h;omega));have X:=iY X a2 (λk hk=>by (rcases hk with h|h;omega;have:=V _ h;omega));clear hF;have X4:=iU X4 a2 (λk hk=>gq hk);refine Ak (Ah (Ai (Al (C1 V7 (C1 Mv (Ak ?_))))));have e4:=L0 X4 Af Ab;exact Aw (j+1,_) sB ⟨by simp only;omega,Af,k1.eff e4,kR.eff e4,U,h4,N,O,G,X⟩ (by simp only;omega)
   . obtain rfl:j=g.procs.length:=by omega
     rw [gF] at hF;have V:∀q,vj.ownBlock=some q->w.heap.size<=q/\q<w3.heap.size/\q≠b1/\q≠af:=λq hq=>⟨hF.own.ge hq,hF.own.lt hq,λe=>k1.2.2 (e▸hq),λe=>kR.2.2 (e▸hq)⟩
     have be:=kR.1;have a6:=hF.cell.lt;obtain ⟨-,-,c3⟩:=body_iff.1 o5;have b9:=J3 g.procs 2009 g.procs 0 (λi p hp=>by
      obtain ⟨c1,c2,-,c4⟩:=Ev (o4 p hp);obtain ⟨-,-,c3⟩:=body_iff.1 c4;have h1:=Fd p.params [];have h2:=RZ g.procs p.body p.params;unfold LU;split<;>omega)
     have ae:=G.pds;have a1:=gp (λ(w':wD) (x':Ext w3 w') (h1:g.main.sits (· < w.heap.size) w' ma) (h2:PDs (· < w.heap.size) w' g.procs pa) (h3:VDs (· < w.heap.size) w' g.vars va)=>
      Qa w.heap.size Z Ab 109 [.pointer (some ⟨af,0,none⟩),.pointer (some ⟨b1,0,none⟩)] AT _ (UH w.heap.size Z af b1 g va vc pa pc ma mc) g Ab va vc pa pc ma mc (g.main.size+1)
       g.main g.vars (· < w.heap.size) (λ_=>False) ma mc va vc none 0 0 w' vj (Ci [] g.vars+DI g.procs 0 g.procs) Ab Ab Ab Ab h1 h2 h3 cl PathAt.nil
       (λb hb=>⟨by have:=x'.size;omega,Ab,λe=>by have:=V _ e;omega⟩) (λ_ h=>h.elim) (hF.ext x') ⟨U.ext x',h4.ext x',kR.grow x'.size,k1.grow x'.size⟩)
     rw [show Ci [] g.vars+DI g.procs 0 g.procs+g.main.flt g.procs g.vars=g.flt from rfl] at a1;have X3:=iK w3;clear hF;refine eK ?_;refine C1 (BW rfl) (cC rfl (a1.out _ Af Af Af Af) ?_);rintro _ fh ⟨⟨⟩,cj,bu,dc,dd⟩;have X:=iY X dc (λk hk=>by (rcases hk with h|h;omega;have:=V _ h;omega));refine cT ?_;have de:∃a c,cj = .slice a g.flt c:=by
      obtain ⟨fj,h1,-⟩:=bu.own.ex;rw [List.length_replicate] at h1;rcases h1.row with ⟨h2,h0,-⟩|⟨q,cap,h2,-⟩
      . exact ⟨none,0,by rw [h2,h0]⟩
      . exact ⟨_,_,h2⟩
     have hc:=bu.cell;obtain ⟨ra,rc,rfl⟩:=de;clear bu dd U h4 N O G ae;refine eK ?_;refine xR ?_;exact ⟨_,_,rfl,X⟩
def KO {x:Nd}:∀ {l:List Nd},x∈BX l -> ∃t∈l,x∈t.walk
 | [],h=>by simp [BX] at h
 | t::r,h=>by
  simp only [BX,List.mem_append] at h;rcases h with h|h
  . exact ⟨t,AN,h⟩
  . obtain ⟨u,G,M⟩:=KO h;exact ⟨u,by simp [G],M⟩
def UL {n:Int} {s:lB} {l:List Nd} (h:(Nd.mk k n s l).good):∀x∈l,x.good:=by
 intro x G;rcases h with h|h|h
 . cases Ce h with
   | call _ _ _ U=>exact gt (gt (GA (List.all_eq_true.1 U x G)))
   | upd _ M N=>simp only [ik,iH,or_false] at G;rcases G with rfl|rfl<;>first|exact gt (gt (Bd Af))|exact gt (gt Af)
   | swap M N=>simp only [ik,iH,or_false] at G;rcases G with rfl|rfl<;>exact gt (gt (Bd Af))
   | stack _ _ M=>simp only [ik,iH,or_false] at G;rw [G];exact gt (gt (Bd M))
   | tape _ M=>simp only [ik,iH,or_false] at G;rw [G];exact gt (gt (Bd M))
   | branch _ M N V X=>simp only [ik,iH,or_false] at G;rcases G with rfl|rfl|rfl|rfl<;>first|exact gt (gt Af)|exact gt (gq Af)
   | local_ _ M N V=>simp only [ik,iH,or_false] at G;rcases G with rfl|rfl|rfl<;>first|exact gt (gt Af)|exact gt (gq Af)
   | lstack _ M=>simp only [ik,iH,or_false] at G;rw [G];exact gt (gq M)
 . obtain ⟨e,O⟩:=DT h;simp only [Nd.kids] at O;exact gq (rowStmt_iff.1 O x G)
 . exact gt (gt ((JY h).2.1 x G))
def UM (N:Nat):∀t:Nd,t.size<N->t.good->t.wf -> ∀x∈t.walk,x.good/\x.wf/\x.size<=t.size:=by
 induction N with
 | zero=>intro t h;omega
 | succ N X=>
  rintro ⟨k,n,s,l⟩ Y V M x G;rw [Nd.walk,ik] at G;rcases G with rfl|G
  . exact ⟨V,M,gI _⟩
  . obtain ⟨t,O,U⟩:=KO G;have hs:=Cx O;simp only [iX] at Y ⊢;obtain ⟨Z,h2,h3⟩:=X t Ab (UL V t O) (BK (by simp only [Nd.wf] at M;exact M.2.2.2.2.2.2) t O) x U;exact ⟨Z,h2,Ab⟩
def L3 {t:Nd} (h:t.isBlock=true) (G:t.wf):∀x∈t.walk,x.good/\x.wf/\x.size<=t.size:=UM (t.size+1) t Ab (gt (gq h)) G
def Jy {P:Program} {n:Nat} {l:Sl} {tab:Tab} {zt:Ei} {ty:TypeId} {x y:Operand} {t B c d:Nat} {a':oA} {sE:Sk} {zs:lV} {ys:List Int} (T:TabOk P tab) (Z:Ch P zt) (ht:Az tab t=some (.slice e,G)) (hE:Az tab e=some (sE,4)) (hz:Cz zt e=some zs) (hzl:zs.length=4)
 (hby:Dk P e=true) (hx:ev l x=some (.slice a xs.length c)) (hy:ev l y=some (.slice a' ys.length d)) (hox:OwnQ rejShape w (λ_=>False) B e (.slice a xs.length c) xs) (hoy:OwnQ rejShape w (λ_=>False) vc e (.slice a' ys.length d) ys) (hxn:xs=[]->a=none/\c=0) (hyn:ys=[]->a'=none/\d=0) (hlen:xs.length+ys.length<=10000000000) (hB:B<=w.heap.size) :
 BD P n l (.call ⟨.builtin .append,#[x,y],#[t,t]⟩) ty w (FV λo w'=> ∃a2 c2,o = .slice a2 (xs++ys).length c2/\OwnQ rejShape w' (λ_=>False) B e (.slice a2 (xs++ys).length c2) (xs++ys)/\Fr (λk=>(gN a xs.length c).ownBlock=some k) w w'/\(xs++ys=[]->a2=none/\c2=0)):=by
 by_cases b:ys=[]
 . obtain ⟨rfl,rfl⟩:=hyn b;subst b;rw [List.append_nil];obtain ⟨i,hi,hs⟩:=(T _ _ _ hE).info;have hun:=(T _ _ _ ht).under;have key:(Builtin.append_ #[t,t] ty #[.slice a xs.length c,.slice none 0 0]).run P w = .ok (.slice a xs.length c) w:=by
    obtain ⟨css,h1,-⟩:=hox.ex;exact run_append_owned_none (P:=P) w B t ty e i 4 hun hi _ xs.length css.flatten h1
   unfold BD;intro act dst pos after g next Q ha hn _;have e1:(execOp act.eval ⟨dst,.call ⟨.builtin .append,#[x,y],#[t,t]⟩,ty,pos,after,g⟩).run P w = .ok (.value (.slice a xs.length c)) w:=by
    simp only [hH] at hy;simp only [execOp,resolve,invoke,builtin,gE,gP,Result.andThen_ok,List.map_toArray,im,List.map_nil,ha.ev hx,ha.ev hy,key]
   unfold iB;rw [e1];exact hn _ _ ⟨a,c,rfl,hox,iP _ _,hxn⟩
 . obtain ⟨css,h1,h2,h3⟩:=hox.ex;obtain ⟨cys,k1,k2,k3⟩:=hoy.ex;have hpos:0<ys.length:=List.length_pos_iff.2 b;rcases k1.row with ⟨-,h0,-⟩|⟨g,cap,hv,-,-,hr⟩
   . omega
   simp only [gR] at hv;obtain ⟨rfl,-,-⟩:=hv;have hone:cys.flatten.all i6=true:=by
    rw [List.all_eq_true];intro u hu;obtain ⟨cs,hcs,hu⟩:=List.mem_flatten.1 hu;obtain ⟨j,hj,rfl⟩:=List.mem_iff_getElem.1 hcs;have:=rejShape.one (k3 j ys[j] cys[j] (gm Ab) (gm hj));exact List.all_eq_true.1 this u hu
   have hd:=DV (P:=P) (n:=n) (l:=l) (ty:=ty) T Z ht hE hz hzl hby rfl hx hy h1 hr k1.1 hone Ab Ab hB;unfold BD at hd ⊢;intro act dst pos after gd next Q ha hn f;refine hd act dst pos after gd next Q ha (λv' w' hG=>?_) (λw' hG=>hG.elim);obtain ⟨g1,g2,g',cap',rfl,g4⟩:=hG;refine hn _ w' ⟨some ⟨g',0,none⟩,cap',by rw [gO],⟨css++cys,by rw [List.flatten_append,gO];exact g1,by simp [h2,k2],λj z ds hz hd=>?_⟩,g2,λe=>by simp [b] at e⟩;by_cases hj:j<xs.length
   . rw [gJ hj] at hz;rw [gJ Ab] at hd;exact h3 j z ds hz hd
   . rw [gU Ab] at hz;rw [gU Ab,h2] at hd;exact k3 _ z ds hz hd
def Dc (ps:List PD):List Int:=ps.flatMap λp=>Cc p.body.walk
def PG.errs (g:PG):List Int:=if g.flt=0 then Dc g.procs++Cc g.main.walk else []
def Qj {j:Nat} (h:j<ps.length):Dc (ps.take (j+1))=Dc (ps.take j)++Cc (ps[j]).body.walk:=by
 unfold Dc;rw [gx h,List.flatMap_append];simp
def L4 (K:Nat):∀ps:List PD,(∀p∈ps,p.body.size<=K)->(Dc ps).length<=ps.length*K
 | [],_=>by simp [Dc]
 | p::r,h=>by
  have N:=L4 K r (λq G=>h q (by simp [G]));have M:=GR p.body.walk;rw [Hk] at M;have O:=h p AN;have e:Dc (p::r)=Cc p.body.walk++Dc r:=by simp [Dc]
  rw [e,gO,gD,Nat.add_mul];omega
set_option maxHeartbeats 8000000 in
def Qk (g:PG) (aa:g.wf) (aj:g.ok=true) (S:nP) (va:oA) (vc:Nat) (pa:oA) (pc:Nat) (ma:oA) (mc:Nat) (w:wD) (Y:g.sits S w va pa ma) (G:PDsC S w g.procs pa) (an:g.vars.length<=vc) :
 Calls prog 70 #[.agg (g.cells va vc pa pc ma mc).toArray] w (ChkR g.errs w):=by
 have HV:=gp (FP aa aj);have HS:=gp (λS va vc pa pc ma mc w Y hp hv=>Jw g aa aj S va vc pa pc ma mc w Y hp hv);obtain ⟨o1,o2,-,o4,o5⟩:=EQ aj;have G:=G.ltA;have Y:=Y.ltA;have X:=iK w;by_cases hf:g.flt=0
 . have he:g.errs=Dc g.procs++Cc g.main.walk:=AQ hf;rw [he];rw [hf] at HS;have N:=Y.main;obtain ⟨b1,-,b3⟩:=body_iff.1 o5;have HM:=gp (Tj (-1) g.main Ab (λx hx=>by
    obtain ⟨h1,h2,h3⟩:=L3 b1 aa.main x hx;exact ⟨h1,h2,Ab⟩))
   refine Ad func70 ntmps70 rfl rfl (cS (eB [_,_,_,_,_,_] ?_));intro b1 w2 O x5 p6 z7;revert G Y X N;refine eE x5 ?_;intro G Y X N;refine kC (HV.out _ _ _ _ _ _ _ _ Af) ?_;rintro _ w9 ⟨⟨⟩,x8⟩;revert O G Y X N;refine eE x8 ?_;intro O G Y X N;refine kQ (HS.out _ _ _ _ _ _ _ _ Af Af an) ?_;rintro _ bk ⟨bl,bm,⟨⟩,au⟩;revert O G X N;refine eE au ?_;intro O G X N;refine A1 rfl rfl rfl (rfl) (C1 Pz (A1 rfl rfl rfl (rfl) (C1 V5 (C1 (Bm rfl rfl rfl) (cT (Lb (Ao (Ai (cS (C1 Pa (cT (Aj (cS (C1 Pf (C1 (Pl O) (C1 Pz (C1 Mv (cT ?_))))))))))))))))));refine As ?_;refine AG (ι:=Nat×oA×Nat) (λy=>[(1,.pointer (some ⟨b1,0,none⟩)),(3,.slice y.2.1 (Dc (g.procs.take y.1)).length y.2.2),(16,.slice pa g.procs.length pc),(17,.int .i64 g.procs.length),(18,.int .i64 y.1)])
    (λy w'=>y.1<=g.procs.length/\OwnQ rejShape w' (λ_=>False) (w.heap.size+1) 140 (.slice y.2.1 (Dc (g.procs.take y.1)).length y.2.2) (Dc (g.procs.take y.1))/\(Dc (g.procs.take y.1)=[]->y.2.1=none/\y.2.2=0)/\Blk w' b1 (g.cells va vc pa pc ma mc)/\PDsC (· < w.heap.size) w' g.procs pa/\g.main.sits (· < w.heap.size) w' ma/\Ext w w')
    (λy=>g.procs.length-y.1) (0,none,0) sB ⟨gC _,OwnQ.nil,λ_=>⟨rfl,rfl⟩,O,G,N,X⟩ ?_
   clear O G N X Y;rintro ⟨j,ra,rc⟩ w3 ⟨hj,M,ab,O,G,N,X⟩;simp only at hj M ab O G N X;have V:∀q,(gN ra (Dc (g.procs.take j)).length rc).ownBlock=some q->w.heap.size+1<=q/\q<w3.heap.size:=λq hq=>⟨M.ge hq,M.lt hq⟩
   have av:=L4 2000 (g.procs.take j) (λp hp=>(body_iff.1 (Ev (o4 p (List.mem_of_mem_take hp))).2.2.2).2.2);have aw:(g.procs.take j).length*2000<=64*2000:=Nat.mul_le_mul_right _ (by simp;omega);have bn:=O.lt;by_cases Z:j<g.procs.length
   . obtain ⟨kb,ko,rfl,kS,ad⟩:=G.get (by intro e;rw [e] at Z;simp at Z);obtain ⟨qa,qc,ba,bc,r0,-,ac,-⟩:=ad j g.procs[j] (gm Z);obtain ⟨d1,-,d3⟩:=body_iff.1 (Ev (o4 _ (gA Z))).2.2.2;have ax:=Qj Z;have ak:=GR (g.procs[j]).body.walk;rw [Hk] at ak;have HC:=gp (Tj j (g.procs[j]).body Ab (λx hx=>by
      obtain ⟨h1,h2,h3⟩:=L3 d1 (aa.procs _ (gA Z)).body x hx;exact ⟨h1,h2,Ab⟩))
     clear ad d1;generalize g.procs[j]=x at *;generalize Cc x.body.walk=ys at *;generalize hE:Dc (g.procs.take j)=E at *;refine eK ?_;refine eA [_,_,_,_,_,_] ?_;intro bo bp ay az bq br;revert N X O G ac M;refine eE az ?_;intro N X O G ac M;refine C1 Pa (eS [_,_,_,_,_,_] ay ?_);intro bs a3 ae a4;revert N X O G ac;refine eF ae ?_;intro N X O G ac;have M:=OwnQ.fr M ae (λk hk=>⟨id,λe=>by have:=V _ e;omega⟩);refine kQ (HC.out _ _ _ _ Af) ?_;rintro _ a5 ⟨a6,a7,⟨⟩,a8,ao,a9⟩;revert N X O G M;refine eY ao ?_;intro bb N X O G M;refine Ax (Jy Ac Cs rfl rfl rfl rfl AT rfl rfl Af Af ab Af Ab Ab) rfl ?_ aFh;rintro _ bd ⟨al,am,rfl,af,U,ag⟩;have N:=iL N U (λb hb h=>by have:=V _ h;omega);have X:=iY X U (λk hk=>by have:=V _ hk;omega);have O:=iO O U (λh=>by have:=V _ h;omega);have G:=PDsC.fr G U (λb hb h=>by have:=V _ h;omega);clear r0 M U;refine C1 Pa (Ak (Ah (Ai (Al (C1 V7 (C1 Mv (Ak ?_)))))));rw [<-ax] at af ag ⊢;exact Aw (j+1,al,am) sB ⟨by simp only;omega,af,ag,O,G,N,X⟩ (by simp only;omega)
   . obtain rfl:j=g.procs.length:=by omega
     rw [gF] at M ab av V;refine CW.sub (m:=[(1,.pointer (some ⟨b1,0,none⟩)),(3,.slice ra (Dc g.procs).length rc),(16,.slice pa g.procs.length pc),(17,.int .i64 g.procs.length),(18,.int .i64 g.procs.length)]) ?_ (Am rfl (BL rfl (by simp only [gF]) (Am rfl (Am rfl (Am rfl BB)))));have ak:=GR g.main.walk;rw [Hk] at ak;rw [gF] at aw;generalize Cc g.main.walk=ys at *;generalize hE:Dc g.procs=E at *;rw [hE] at *;refine kQ (HM.out _ _ _ _ Af) ?_;rintro _ bt ⟨bu,bv,⟨⟩,bw,a0,bx⟩;revert X M;refine eY a0 ?_;intro bz X M;refine Ax (Jy Ac Cs rfl rfl rfl rfl AT rfl rfl Af Af ab Af Ab Ab) rfl ?_ aFh;rintro _ be ⟨bf,bg,rfl,ah,ai,ap⟩;have X:=iY X ai (λk hk=>by have:=V _ hk;omega);clear M ai;refine kR ?_;exact ⟨_,_,rfl,OwnQ.below ah (λk hk=>by have:=ah.ge hk;omega),X,ap⟩
 . have he:g.errs=[]:=AB hf;rw [he];refine Ad func70 ntmps70 rfl rfl (cS (eB [_,_,_,_,_,_] ?_));intro b0 b2 aq a1 _ _;revert G Y X;refine eE a1 ?_;intro G Y X;refine kC (HV.out _ _ _ _ _ _ _ _ Af) ?_;rintro _ b4 ⟨⟨⟩,a2⟩;revert aq G Y X;refine eE a2 ?_;intro aq G Y X;refine kQ (HS.out _ _ _ _ _ _ _ _ Af Af an) ?_;rintro _ bh ⟨bi,bj,⟨⟩,ar⟩;have X:=X.ext ar;refine kR ?_;all_goals exact ⟨none,0,rfl,OwnQ.nil,X,λ_=>⟨rfl,rfl⟩⟩
def PG.acc (g:PG):Prop:=g.ok=true/\g.flt=0/\g.errs=[]
def dE (g:PG) (N:g.wf) (S:nP) (va:oA) (vc:Nat) (V:oA) (pc:Nat) (ma:oA) (mc:Nat) (w:wD) (M:g.sits S w va V ma) (G:PDsC S w g.procs V) (Y:g.vars.length<=vc) :
 Calls prog 41 #[.agg (g.cells va vc V pc ma mc).toArray] w λe w'=> ∃q,e = .returned (.bool q)/\(q=true↔g.acc)/\Ext w w':=by
 have X:=iK w;have M:=M.ltA;have G:=G.ltA;cases hok:g.ok
 . have Z:=gp (FP N hok);have hn:¬g.acc:=λh=>by rw [h.1] at hok;cases hok
   clear N hok G;refine Ad func41 ntmps41 rfl rfl (cS (eB [_,_,_,_,_,_] ?_));intro b1 w2 h4 x5 _ _;revert X M;refine eE x5 ?_;intro X M;refine kC (Z.out _ _ _ _ _ _ _ _ Af) ?_;rintro _ w9 ⟨⟨⟩,x8⟩;have X:=X.ext x8;refine kR ?_;exact ⟨_,rfl,⟨(λh=>nomatch h),λh=>absurd h hn⟩,X⟩
 have Z:=gp (FP N hok);have HC:=gp (λw1 h1 h2=>Jw g N hok (· < w.heap.size) va vc V pc ma mc w1 h1 h2 Y);have HE:=gp (λw1 h1 h2=>Qk g N hok (· < w.heap.size) va vc V pc ma mc w1 h1 h2 Y);by_cases h0:g.flt=0
 . rw [h0] at HC;have hq:g.acc↔g.errs.length=0:=⟨λh=>by rw [h.2.2];rfl,λh=>⟨hok,h0,List.eq_nil_of_length_eq_zero h⟩⟩;rw [hq];generalize g.errs=xs at *;clear N hok h0 hq;by_cases hx:xs.length=0
   . refine Ad func41 ntmps41 rfl rfl ?_;refine cS (eB [_,_,_,_,_,_] ?_);intro a8 a9 O ag _ _;revert X M G;refine eE ag ?_;intro X M G;refine kC (Z.out _ _ _ _ _ _ _ _ Af) ?_;rintro _ ba ⟨⟨⟩,ah⟩;revert O X M G;refine eE ah ?_;intro O X M G;refine kQ (HC.out _ Af Af) ?_;rintro _ am ⟨an,ao,⟨⟩,aa⟩;revert O X M G;refine eE aa ?_;intro O X M G;refine kQ (HE.out _ Af Af) ?_;rintro _ ap ⟨aq,ar,⟨⟩,au,ab,av⟩;have X:=X.ext ab;refine kR ?_;exact ⟨_,rfl,by simp [hx],X⟩
   . refine Ad func41 ntmps41 rfl rfl ?_;refine cS (eB [_,_,_,_,_,_] ?_);intro bb bc U ai _ _;revert X M G;refine eE ai ?_;intro X M G;refine kC (Z.out _ _ _ _ _ _ _ _ Af) ?_;rintro _ bd ⟨⟨⟩,aj⟩;revert U X M G;refine eE aj ?_;intro U X M G;refine kQ (HC.out _ Af Af) ?_;rintro _ aw ⟨ax,ay,⟨⟩,ac⟩;revert U X M G;refine eE ac ?_;intro U X M G;refine kQ (HE.out _ Af Af) ?_;rintro _ az ⟨a0,a1,⟨⟩,a2,ad,a3⟩;have X:=X.ext ad;refine kR ?_;exact ⟨_,rfl,by simp [hx],X⟩
 . have hn:¬g.acc:=λh=>h0 h.2.1
   have a4:0<g.flt:=Nat.pos_of_ne_zero h0;generalize g.flt=nf at *;clear N hok;refine Ad func41 ntmps41 rfl rfl (cS (eB [_,_,_,_,_,_] ?_));intro be bf ae ak _ _;revert X M G;refine eE ak ?_;intro X M G;refine kC (Z.out _ _ _ _ _ _ _ _ Af) ?_;rintro _ bg ⟨⟨⟩,al⟩;revert ae X M G;refine eE al ?_;intro ae X M G;refine kQ (HC.out _ Af Af) ?_;rintro _ a5 ⟨a6,a7,⟨⟩,af⟩;have X:=X.ext af;refine kR ?_;exact ⟨_,rfl,⟨(λh=>nomatch h),λh=>absurd h hn⟩,X⟩
structure EX where
 name:lB
 points:Int
 fuel:Int
 box:BoxV
 g:PG
def EX.cells (e:EX) (va:oA) (vc:Nat) (pa:oA) (pc:Nat) (ma:oA) (mc:Nat):lV:=
 [str e.name,.int .i64 e.points,.int .i64 e.fuel,.int .i64 e.box.v,.int .i64 e.box.l,.int .i64 e.box.i,.slice va e.g.vars.length vc,.slice pa e.g.procs.length pc,.int .u8 e.g.main.kind,.int .i64 e.g.main.num,str e.g.main.name,.slice ma e.g.main.kids.length mc]
def PG.pinv (g:PG):PG:=⟨g.vars,g.procs,g.main.inv false⟩
def EX.num (e:EX):Prop:=Cj e.name=true/\(1<=e.points/\e.points<=1000)/\0<=e.fuel/\e.fuel<=1000000
instance (e:EX):Decidable e.num:=by unfold EX.num;infer_instance
instance (g:PG):Decidable g.acc:=by unfold PG.acc;infer_instance
def EX.valid (e:EX):Prop:=e.num/\e.g.acc/\e.g.pinv.acc/\(FX e.g.vars e.box).2=0/\(FX e.g.vars e.box).1<=65536
instance (e:EX):Decidable e.valid:=by unfold EX.valid;infer_instance
def PG.pinv_eq (g:PG):g.pinv=g.inv id false:=(PG.inv_id false g).symm
def PG.pinv_wf (h:g.wf) (G:g.ok=true):g.pinv.wf:=by
 rw [PG.pinv_eq];exact UJ false h G (λp M=>(h.procs p M).body)
def OC {P:Program} {n:Nat} {l:Sl} {S:wD->Prop} {ty t t':TypeId} {x y:Operand} {a b m:Int} (G:ev l x=some (.int .i64 a)) (M:ev l y=some (.int .i64 b)) (N:min a b=m):Bh P n l S (.call ⟨.builtin .min,#[x,y],#[t,t']⟩) ty (.int .i64 m):=by
 unfold Bh;intro c w O pos after g h _;have e:(if b<a then b else a)=m:=by rw [<-N];split<;>omega
 simp [execOp,resolve,invoke,builtin,Builtin.min_,Builtin.min2,h.ev G,h.ev M,e]
def Nw (x y:Int) (h:1<=x/\x<=1099511627777) (V:1<=y/\y<=1099511627777) (w:wD) :
 Calls prog 73 #[.int .i64 x,.int .i64 y] w λe w'=>e = .returned (.int .i64 (FK x y))/\Ext w w':=by
 have X:=iK w;have G:(1099511627776:Int).tdiv y=1099511627776/y:=Int.tdiv_eq_ediv_of_nonneg Ab;have h2:0<=(1099511627776:Int)/y:=Int.ediv_nonneg Ab Ab;have h3:(1099511627776:Int)/y<=1099511627776:=Int.ediv_le_self _ Ab;have M:iG .i64 ((1099511627776:Int).tdiv y)=1099511627776/y:=by rw [G];exact gz _ Ab
 have Y:y≠0:=by omega
 by_cases N:1099511627776/y<x
 . rw [show FK x y=1099511627777 by unfold FK;rw [AQ N]];generalize (1099511627776:Int)/y=q at *;refine Ad func73 ntmps73 rfl rfl (eK ?_);refine C1 (Gz rfl rfl Af M) (kR ?_);exact ⟨rfl,X⟩
 . have O:=Og h.1 h.2 V.1;have e:FK x y=x*y:=by unfold FK;rw [AB N]
   rw [e] at O ⊢;obtain ⟨m,U⟩:∃m,x*y=m:=⟨_,rfl⟩;rw [U] at O ⊢;have Z:iG .i64 (x*y)=m:=by rw [U];exact gz _ Ab
   generalize (1099511627776:Int)/y=q at *;clear G e;refine Ad func73 ntmps73 rfl rfl (eK ?_);refine C1 (Gz rfl rfl Af M) (eK ?_);refine C1 (Ib rfl rfl Z) (kR ?_);exact ⟨rfl,X⟩
def Ql (p:Int×Int) (y:Int) (hp:0<=p.1/\p.1<=1000) (hq:0<=p.2/\p.2<=1000) (V:1<=y/\y<=1099511627777) (w:wD) :
 Calls prog 74 #[.agg #[.int .i64 p.1,.int .i64 p.2],.int .i64 y] w λe w'=>e = .returned (.int .i64 (LK p y))/\Ext w w':=by
 have X:=iK w;obtain ⟨G,ac⟩:=p;simp only at hp hq;unfold LK;obtain ⟨N,rfl⟩:=Int.eq_ofNat_of_zero_le hq.1;rw [show ((N:Int)+1).toNat=N+1 by omega];have HS:=gp (λn=>Oi G y V.1 n);have HP:=gp (λn=>Oh G y V.1 n);have HC:=gp (λx h w1=>Nw x y h V w1);have Y:=gp (λn=>show LJ G y (n+1)=(if G<=n then min ((LJ G y n).1+(LJ G y n).2) 1099511627777 else (LJ G y n).1,FK (LJ G y n).2 y) from rfl);refine Ad func74 ntmps74 rfl rfl (cS (Dl [_,_] rfl rfl rfl ?_));intro b1 w2 n3;have M:=n3.blk;dsimp only at M;have x5:=n3.ext;have X:=X.ext x5;refine C1 Pa (cN (C1 Pa (C1 Pa (cT (Aj (cS (C1 Pf (C1 (Pl M) (C1 V7 (C1 Mv (cT ?_)))))))))));refine As ?_;refine AG (ι:=Nat) (λj=>[(1,.int .i64 y),(2,.pointer (some ⟨b1,0,none⟩)),(5,.int .i64 (LJ G y j).1),(6,.int .i64 (LJ G y j).2),(10,.int .i64 ((N:Int)+1)),(11,.int .i64 j)])
  (λj w'=>j<=N+1/\Blk w' b1 [.int .i64 G,.int .i64 N]/\Ext w w') (λj=>N+1-j) 0 sB ⟨gC _,M,X⟩ ?_
 clear M X;rintro j w1 ⟨hj,M,X⟩;by_cases ad:j<N+1
 . have hs:=HS.out j;have O:=HP.out j;have U:=Y.out j;have Z:=gp (HC.out _ O);generalize LJ G y j=r at *;obtain ⟨r1,r2⟩:=r;simp only at hs O U Z;clear Y;by_cases hl:G<=(j:Int)
   . rw [AQ hl] at U;refine eK ?_;refine C1 (OC rfl rfl rfl) (kC (Z.out _) ?_);rintro _ ae ⟨⟨⟩,aa⟩;revert M X;refine eE aa ?_;intro M X;refine C1 Pa (Ak (Ah (Ai (Al (C1 V7 (C1 Mv (Ak ?_)))))));exact Aw (j+1) (by rw [U];(refine Am rfl ?_;refine Am rfl ?_;refine Am rfl ?_;refine Am rfl ?_;refine Am rfl ?_;refine Am rfl ?_;exact BB)) ⟨Ab,Af,X⟩ Ab
   . rw [AB hl] at U;refine kC (Z.out _) ?_;rintro _ af ⟨⟨⟩,ab⟩;revert M X;refine eE ab ?_;intro M X;refine C1 Pa (Ak (Ah (Ai (Al (C1 V7 (C1 Mv (Ak ?_)))))));exact Aw (j+1) (by rw [U];(refine Am rfl ?_;refine Am rfl ?_;refine Am rfl ?_;refine Am rfl ?_;refine Am rfl ?_;refine Am rfl ?_;exact BB)) ⟨Ab,Af,X⟩ Ab
 . obtain rfl:j=N+1:=by omega
   clear HS HP Y HC;generalize (LJ G y (N+1)).1=s at *;refine kR ?_;exact ⟨rfl,X⟩
def EH:Shape (List Int) where
 sz:=1
 rep:=λw S xs cs=> ∃a c,cs=[.slice a xs.length c]/\Rows S w (AX xs) a
 len:=λ⟨_,_,h,_⟩=>by rw [h];rfl
 one:=λ⟨_,_,h,_⟩=>by rw [h];rfl
 mono:=λ⟨a,c,h,h2⟩ hS hc=>⟨a,c,h,h2.move hS (λb o v hb h=>hc b o v hb h)⟩
 lt:=λ⟨a,c,h,h2⟩=>⟨a,c,h,h2.lt2⟩
def OwnQ.ics {R:nP} {B:Nat} {len cap:Nat} {xs:List (List Int)} (h:OwnQ EH w R B e (.slice a len cap) xs) (U:∀b,R b->S b) (V:∀b,B<=b->b<w.heap.size->S b):ICs S w xs a:=by
 by_cases M:xs=[]
 . exact gq M
 . obtain ⟨g,N,O,X,Y,G⟩:=h.rows M;simp only [gR] at O;obtain ⟨rfl,-,-⟩:=O;refine gt ⟨g,0,rfl,V g X Y,λi x Z=>?_⟩;obtain ⟨cs,hr,a,c,rfl,h2⟩:=G i x Z;exact ⟨a,c,by simpa [EH] using hr,h2.wide U⟩
def F6 (h:Rows S w (AX xs) a):IntsAt w xs a:=h.wide λ_ _=>trivial
def OwnI.rowsI {B:Nat} {n c:Nat} (h:OwnI w B (.slice a n c) xs) (O:∀k,(gN a n c).ownBlock=some k->S k):Rows S w (AX xs) a:=by
 rcases h.open with ⟨G,M⟩|⟨g,cap,zs,G,M,U,V,X⟩
 . subst M;exact gq rfl
 . simp only [gR] at G;obtain ⟨rfl,-,-⟩:=G;refine gt ⟨g,0,rfl,O g rfl,λi v N=>?_⟩;exact (U.blk.row) i v (by rw [gJ];exact N;exact (List.getElem?_eq_some_iff.1 N).1)
def SvR (s:SV) (w:wD):Ending->wD->Prop:=λe w'=> ∃a c ta tc oa oc,e = .returned (.agg (s.row a c ta tc oa oc).toArray)/\s.sits (λb=>w.heap.size<=b/\b<w'.heap.size) w' a ta oa/\Ext w w'
def SvR.ret {s:SV} {e:Ending} (h:SvR s w e w'):∃v,e = .returned v:=by
 obtain ⟨_,_,_,_,_,_,h,-⟩:=h;exact ⟨_,h⟩
def CloneS (xs:List Int) (w:wD):Ending->wD->Prop:=λe w'=> ∃a c,e = .returned (.slice a xs.length c)/\Rows (λb=>w.heap.size<=b/\b<w'.heap.size) w' (AX xs) a/\Ext w w'
def CloneS.ret {e:Ending} (h:CloneS xs w e w'):∃v,e = .returned v:=by
 obtain ⟨_,_,h,-⟩:=h;exact ⟨_,h⟩
def Hn (xs:List Int) (G:xs.length<=1000000) (S:nP) (a:oA) (c:Nat) (w:wD) (h:Rows S w (AX xs) a):Calls prog 88 #[.slice a xs.length c] w (CloneS xs w):=
 (Fo xs G a c w (F6 h)).mono λ_ _ ⟨a,c,h1,h2,h3,h4⟩=>⟨a,c,h1,h2.rowsI h3,h4⟩
def J6 (s:SV) (S:nP) (a ta oa:oA) (c tc oc:Nat) (w:wD) (hn:s.cells.length<=1000000) (hc:∀xs∈s.cells,xs.length<=1000000) (ht:s.tin.length<=1000000) (ho:s.tout.length<=1000000) (hv:s.sits S w a ta oa) :
 Calls prog 50 #[.agg (s.row a c ta tc oa oc).toArray] w (SvR s w):=by
 have X:=iK w;have hv:=hv.ltA;obtain ⟨cells,ag,tout⟩:=s;obtain ⟨G,ae,Y⟩:=hv;simp only at G ae Y hn hc ht ho;have H1:=gp (λw1 h=>Hn ag ht (· < w.heap.size) ta tc w1 h);have H2:=gp (λw1 h=>Hn tout ho (· < w.heap.size) oa oc w1 h);have HC:=gp hc;clear hc;change Calls prog _ #[.agg #[.slice a cells.length c,.slice ta ag.length tc,.slice oa tout.length oc]] w _;refine Ad func50 ntmps50 rfl rfl (cS (eB [_,_,_] ?_));intro b1 w2 h4 x5 p6 z7;revert X G ae Y;refine eE x5 ?_;intro X G ae Y;refine eA [_,_,_] ?_;intro b8 w9 N bi dh di;revert h4 X G ae Y;refine eE bi ?_;intro h4 X G ae Y;refine cT ?_;refine FM (ι:=Nat×oA×Nat×oA×Nat) (λx=>[(1,.pointer (some ⟨b1,0,none⟩)),(2,.pointer (some ⟨b8,0,none⟩)),(3,.pointer (some ⟨x.1,0,none⟩))])
  (λx w'=>Blk w' x.1 [.slice none 0 0,.slice x.2.1 ag.length x.2.2.1,.slice x.2.2.2.1 tout.length x.2.2.2.2]/\Rows (λb=>b8<b/\b≠x.1/\b<w'.heap.size) w' (AX ag) x.2.1/\Rows (λb=>b8<b/\b≠x.1/\b<w'.heap.size) w' (AX tout) x.2.2.2.1/\b8<x.1/\x.1<w'.heap.size/\Blk w' b1 [.slice a cells.length c,.slice ta ag.length tc,.slice oa tout.length oc]/\Blk w' b8 [.slice none 0 0,.slice none 0 0,.slice none 0 0]/\ICs (· < w.heap.size) w' cells a/\Ext w w') ?_ ?_
 . focus
    refine Aq (λwz=>Ext w9 wz) 8 (.pure 0 (.pure 1 (.pure 3 (.pure 4 (.fork 2 (.fork 5 (.pure 6 (.fork 7 .tail .none)) (.fork 7 (.fork 5 (.pure 6 .tail) .none) .none)) (.fork 7 (.fork 2 (.fork 5 (.pure 6 .tail) .none) .none) .none)))))) mixed AT (Aa Ag) ?_;intro bj ay _;have M:(λwz=>Ext w9 wz) bj:=ay;simp only at M;have bp:=h4;revert N h4 X G ae Y;refine eY ay ?_;intro dk N h4 X G ae Y;refine ⟨M,?_⟩;refine eT ?_;refine AE rfl (AR AT rfl (H1.out _ Af) (λ_ _ h=>h.ret)) rfl ?_ aFh ?kra5;rintro _ br ⟨dl,dm,⟨⟩,ad,bk⟩;revert M N h4 X G Y;refine eY bk ?_;intro bs M N h4 X G Y;refine ⟨M,?_⟩;refine AE rfl (AR AT rfl (H2.out _ Af) (λ_ _ h=>h.ret)) rfl ?_ aFh ?kra12;rintro _ bt ⟨bu,bv,⟨⟩,ai,az⟩;revert ad M N h4 X G;refine eY az ?_;intro bw ad M N h4 X G;refine ⟨M,?_⟩;refine Tq rfl (xB [_,_,_]) (AE rfl (Bb Cs rfl) rfl ?_ aFh AD);rintro _ bx ⟨bz,rfl,aj⟩;have ar:=aj.blk;dsimp only at ar;have a0:=aj.ext;have b0:=aj.pos;have b2:=aj.size;revert ai ad M N h4 X G;refine eE a0 ?_;intro ai ad M N h4 X G;refine ⟨M,?_⟩;refine At rfl (eS [_,_,_] ar ?_);intro b3 b4 a3 b5;revert ai ad N h4 X G;refine eF a3 ?_;intro ai ad N h4 X G;refine Ak ?_;rotate_left;refine AE rfl (Bb Cs rfl) rfl ?_ aFh AD;rintro _ b6 ⟨b7,rfl,ak⟩;have al:=ak.blk;dsimp only at al;have a4:=ak.ext;have b9:=ak.pos;have ca:=ak.size;revert ad M N h4 X G Y;refine eE a4 ?_;intro ad M N h4 X G Y;refine ⟨M,?_⟩;refine tC rfl rfl (H2.out _ Af) ?_;rintro _ cb ⟨cc,cd,⟨⟩,au,a5⟩;revert al ad M N h4 X G;refine eY a5 ?_;intro ce al ad M N h4 X G;refine ⟨M,?_⟩;refine Tq rfl (xB [_,_,_]) (At rfl (eS [_,_,_] al ?_));intro cf cg a6 ch;revert au ad N h4 X G;refine eF a6 ?_;intro au ad N h4 X G;refine Ak ?_;rotate_left;refine AE rfl (Bb Cs rfl) rfl ?_ aFh AD;rintro _ ci ⟨cj,rfl,am⟩;have af:=am.blk;dsimp only at af;have a7:=am.ext;have ck:=am.pos;have cl:=am.size
    revert M N h4 X G ae Y;refine eE a7 ?_;intro M N h4 X G ae Y;refine ⟨M,?_⟩;refine tC rfl rfl (H1.out _ Af) ?_;rintro _ cm ⟨cn,co,⟨⟩,an,a8⟩;revert af M N h4 X G Y;refine eY a8 ?_;intro cp af M N h4 X G Y;refine ⟨M,?_⟩;refine tC rfl rfl (H2.out _ Af) ?_;rintro _ cq ⟨cr,ct,⟨⟩,av,a9⟩;revert an af M N h4 X G;refine eY a9 ?_;intro cu an af M N h4 X G;refine ⟨M,?_⟩;refine Tq rfl (xB [_,_,_]) (At rfl (eS [_,_,_] af ?_));intro cv cw ba cx;revert av an N h4 X G;refine eF ba ?_;intro av an N h4 X G;refine Ak ?_;rotate_left
   all_goals exact BS (_,_,_,_,_) sC ⟨Af,Rows.wide Af (λb h=>⟨Ab,by simp only;omega,Ab⟩),Rows.wide Af (λb h=>⟨Ab,by simp only;omega,Ab⟩),by simp only;omega,by simp only;omega,Af,Af,Af,X⟩
 . clear h4 N G ae Y X H1 H2;rintro ⟨bq,a1,c1,a2,c2⟩ w1 ⟨Z,U,V,o1,o2,bb,aa,G,X⟩;simp only at Z U V o1 o2;refine Aj (cS (C1 Pg (C1 (Pl bb) (C1 Pz (C1 Mv (cT ?_))))));refine As ?_;refine AG (ι:=Nat) (λj=>[(1,.pointer (some ⟨b1,0,none⟩)),(2,.pointer (some ⟨b8,0,none⟩)),(3,.pointer (some ⟨bq,0,none⟩)),(14,.slice a cells.length c),(15,.int .i64 cells.length),(16,.int .i64 j)])
    (λj w'=> ∃ra rc,j<=cells.length/\OwnQ EH w' (λb=>w1.heap.size<=b) w1.heap.size 43 (.slice ra (cells.take j).length rc) (cells.take j)/\Blk w' bq [.slice ra (cells.take j).length rc,.slice a1 ag.length c1,.slice a2 tout.length c2]/\Rows (λb=>b8<b/\b≠bq/\b<w1.heap.size) w' (AX ag) a1/\Rows (λb=>b8<b/\b≠bq/\b<w1.heap.size) w' (AX tout) a2/\Blk w' b8 [.slice none 0 0,.slice none 0 0,.slice none 0 0]/\ICs (· < w.heap.size) w' cells a/\Ext w w'/\w1.heap.size<=w'.heap.size)
    (λj=>cells.length-j) 0 sB ⟨none,0,gC _,OwnQ.nil,Z,U,V,aa,G,X,gI _⟩ ?_
   clear Z U V aa G X bb;rintro j w3 ⟨ra,rc,hj,O,Z,U,V,aa,G,X,hz⟩;have ah:∀g',(gN ra (cells.take j).length rc).ownBlock=some g'->w1.heap.size<=g'/\g'<w3.heap.size:=λg' h=>⟨O.ge h,O.lt h⟩
   have dn:(cells.take j).length<=1000000:=by rw [ij];omega
   by_cases aq:j<cells.length
   . have O:=O.ltR;obtain ⟨db,dp,rfl,dS,hd⟩:=G.get (by intro e;subst e;simp at aq);obtain ⟨xa,xc,ry,bc⟩:=hd j _ (gm aq);have HX:=gp (λw1 (h:Rows (· < w.heap.size) w1 (AX cells[j]) xa)=>Hn cells[j] (HC.out _ (gA aq)) (· < w.heap.size) xa xc w1 h);have ap:cells.take j++[cells[j]]=cells.take (j+1):=(gx aq).symm;clear hd HC;generalize cells[j]=x at *;generalize cells.take j=ys at *;refine eK ?_;refine Aq (λwz=>Ext w3 wz) 5 (.pure 0 (.pure 1 (.pure 2 (.fork 3 (.fork 4 .tail .none) .none)))) mixed AT (Ae (Aa (Aa (Ae (Aa Ag))))) ?_;intro bl bd _;have ab:(λwz=>Ext w3 wz) bl:=bd;simp only at ab;have bm:=Z;revert U V aa X G bc Z O;refine eY bd ?_;intro dq U V aa X G bc Z O;refine ⟨ab,?_⟩;refine eT ?_;refine tC rfl rfl (HX.out _ Af) ?_;rintro _ cy ⟨dr,ds,⟨⟩,be,bn⟩;revert ab U V aa X G Z O;refine eY bn ?_;intro cz ab U V aa X G Z O;refine ⟨ab,?_⟩;refine AE rfl (xS [_]) rfl ?_ aFh AD;rintro _ c0 ⟨c3,rfl,ao,c4⟩;have c5:=ao.blk;have bf:=ao.ext;have c6:=ao.pos;have c7:=ao.size;revert be ab U V aa X G Z O;refine eE bf ?_;intro be ab U V aa X G Z O;refine ⟨ab,?_⟩;refine At rfl (Da (R:=λb=>w1.heap.size<=b) (sh:=EH) (z:=x) Ac Cs rfl rfl rfl rfl AT rfl rfl rfl Af (λ_ h=>by exact h.1) (i7 Af) ⟨_,_,rfl,Rows.wide Af (λb h=>by (try dsimp only at h);exact ⟨Ab,λe=>by have:=ah _ e;omega⟩)⟩ Ab Ab rfl ?_)
     rintro c8 bg c9 aw da dc ac;have dd:=ac.size;have U:=Rows.fr U ac (λb hb hT=>by have:=ah _ hT;(try dsimp only at hb);omega);have V:=Rows.fr V ac (λb hb hT=>by have:=ah _ hT;(try dsimp only at hb);omega);have aa:=iO aa ac (λe=>by have:=ah _ e;omega);have X:=iY X ac (λk hk=>by have:=ah _ hk;omega);have G:=ICs.fr G ac (λb hb hT=>by have:=ah _ hT;(try dsimp only at hb);omega);clear ry;have Z:=iO Z ac (λe=>by have:=ah _ e;omega);clear O ac;refine C1 Pg (eV [_] [_,_,_] Z ?_);intro de df ax dg;clear Z;have aw:=OwnQ.fr aw ax (λk hk=>⟨λh=>by (try dsimp only at hk h);omega,λe=>by have:=OwnQ.ge Af e;(try dsimp only at hk);omega⟩);revert U V aa X G;refine eF ax ?_;intro U V aa X G;refine Ak (Ah (Ai (Al (C1 V7 (C1 Mv (Ak ?_))))));exact Aw (j+1) sB ⟨some ⟨_,0,none⟩,_,Ab,by rw [<-ap];assumption,by rw [<-ap];assumption,U,V,aa,G,X,Ab⟩ Ab
   . obtain rfl:j=cells.length:=by omega
     rw [gF] at *;refine eK ?_;refine eS [_,_,_] aa ?_;intro dt bo bh du;revert U V X;refine eF bh ?_;intro U V X;have O:=OwnQ.fr O bh (λk hk=>⟨λh=>by (try dsimp only at hk h);omega,λe=>by have:=OwnQ.ge Af e;(try dsimp only at hk);omega⟩);refine kX bo ?_;exact ⟨_,_,_,_,_,_,rfl,⟨O.ltR.ics (λb h=>⟨Ab,Ab⟩) (λb h1 h2=>⟨Ab,h2⟩),U.wide (λb h=>⟨Ab,Ab⟩),V.wide (λb h=>⟨Ab,Ab⟩)⟩,X⟩
section
variable {α:Type} {c:α->Value} {S S' T:nP} {w w':wD} {l:List α} {a:oA}
end
def Tm {α:Type} (c:α->Value) (h1:∀x,i6 (c x)=true):Shape α where
 sz:=1
 rep:=λ_ _ v cs=>cs=[c v]
 len:=λh=>by rw [h];rfl
 one:=λh=>by rw [h];simp [h1]
 mono:=λh _ _=>h
 lt:=λh=>h
abbrev fA (i:Int):Value:=.int .i64 i
abbrev CY:Shape Int:=Tm fA (λ_=>rfl)
abbrev strShape:Shape lB:=Tm str (λ_=>rfl)
def CZ (vs:List VD):List (List Int):=vs.map λv=>gT (CT v).toNat 0
def ArrS.blkJ {C D g:Nat} (h:ArrS CY C D w g xs):Blk w g (AX xs):=by
 obtain ⟨G,N,V,O⟩:=h.ex;have e:G.flatten=AX xs:=by
  have:G=xs.map λx=>[ii .i64 x]:=by
   apply List.ext_getElem? ;intro i;rw [gV];rcases gK i xs.length with M|M
   . have U:G[i]? = some G[i]:=gm Ab;have:=O i xs[i] G[i] (gm M) U;rw [U,gm M];exact congrArg some this
   . rw [gG M,gG Ab];rfl
  rw [this];unfold AX;clear this N V O h
  induction xs with
  | nil=>rfl
  | cons x xs X=>simp [X]
 rwa [e] at N
def ArrS.rowsJ {C D g:Nat} (h:ArrS CY C D w g xs) (G:S g):Rows S w (AX xs) (some ⟨g,0,none⟩):=gt ⟨g,0,rfl,G,h.blkJ.row⟩
def NewSR (vs:List VD) (w:wD):Ending->wD->Prop:=λe w'=> ∃a c ta tc,e = .returned (.tuple #[.agg #[.slice a vs.length c,.slice ta 0 tc,.slice none 0 0],.int .i64 0])/\ICs (λb=>w.heap.size<=b/\b<w'.heap.size) w' (CZ vs) a/\Ext w w'
def NewSR.ret {vs:List VD} {e:Ending} (h:NewSR vs w e w'):∃v,e = .returned v:=by
 obtain ⟨_,_,_,_,h,-⟩:=h;exact ⟨_,h⟩
def YK (l:List VD) (U:l.length<=1000000) (O:¬CS l) (S:nP) (a:oA) (c:Nat) (w:wD) (M:VDs S w l a) :
 Calls prog 112 #[.slice a l.length c,.slice none 0 0] w λe w'=>e = .returned (.tuple #[.agg #[.slice none 0 0,.slice none 0 0,.slice none 0 0],.int .i64 3])/\Ext w w':=by
 have X:=iK w;have V:Hid (∀w1,VDs S w1 l a->Calls prog 152 #[.slice a l.length c] w1 λe w'=>e = .returned (.bool false)/\Ext w1 w'):=gp λw1 h=>(Of l U S a c w1 h).mono λe w' ⟨q,h1,h2,h3⟩=>⟨by rw [h1,show q=false by cases q with|false=>rfl|true=>exact absurd (h2.1 rfl) O],h3⟩
 clear O;refine Ad func112 ntmps112 rfl rfl (cS (eA [_,_,_] ?_));intro b1 w2 G Y p7 z8;revert M X;refine eE Y ?_;intro M X;refine kC (V.out _ Af) ?_;rintro _ Z ⟨⟨⟩,x9⟩;revert G X;refine eE x9 ?_;intro G X;refine eK ?_;refine C1 (xB [_,_,_]) (eS [_,_,_] G ?_);intro aa ab N _;clear G M;have X:=X.fr N Ab;refine eK ?_;refine CU rfl Ac rfl rfl rfl Af rfl rfl ?_;exact ⟨rfl,X⟩
def YL (l:List VD) (hv:CS l) (S:nP) (a:oA) (c:Nat) (w:wD) (U:VDs S w l a) :
 Calls prog 112 #[.slice a l.length c,.slice none 0 0] w (NewSR l w):=by
 have X:=iK w;replace U:VDs (· < w.heap.size) w l a:=U.lt2.wide λ_ h=>h.2
 have hl:l.length<=1000000:=by have:=hv.1;omega
 have HV:Hid (∀w1,VDs (· < w.heap.size) w1 l a->Calls prog 152 #[.slice a l.length c] w1 λe w'=>e = .returned (.bool true)/\Ext w1 w'):=gp λw1 h=>(Of l hl (· < w.heap.size) a c w1 h).mono λe w' ⟨q,h1,h2,h3⟩=>⟨by rw [h1,h2.2 hv],h3⟩
 have HN:Hid (∀w1,Calls prog 88 #[.slice none 0 0] w1 (CloneS [] w1)):=gp λw1=>Hn [] AN (λ_=>True) none 0 w1 (gq rfl)
 have hz:(CZ l).length=l.length:=by simp [CZ]
 refine Ad func112 ntmps112 rfl rfl (cS (eA [_,_,_] ?_));intro b1 w2 V x6 p7 z8;revert X U;refine eE x6 ?_;intro X U;refine kC (HV.out _ Af) ?_;rintro _ bs ⟨⟨⟩,x9⟩;revert V X U;refine eY x9 ?_;intro bt V X U;refine kQ (HN.out _) ?_;rintro _ bu ⟨aj,ak,⟨⟩,ax,ay⟩;revert V X U;refine eY ay ?_;intro bv V X U;refine C1 (xB [_,_,_]) (xA [_,_,_] ?_);intro al bw az;refine eI [_,_,_] az ?_;intro ab O a0 bx bz;revert V X U;refine eE a0 ?_;intro V X U;refine cT (Aj (cS (C1 Mv (C1 Pz (C1 Mv (cT ?_))))));refine As ?_;refine AG (ι:=Nat) (λj=>[(4,.pointer (some ⟨b1,0,none⟩)),(6,.pointer (some ⟨al,0,none⟩)),(20,.slice a l.length c),(21,.int .i64 l.length),(22,.int .i64 j)])
  (λj w'=> ∃ra rc,j<=l.length/\OwnQ EH w' (λb=>ab.heap.size<=b) ab.heap.size 43 (.slice ra ((CZ l).take j).length rc) ((CZ l).take j)/\Blk w' al [.slice ra ((CZ l).take j).length rc,.slice aj 0 ak,.slice none 0 0]/\Blk w' b1 [.slice none 0 0,.slice none 0 0,.slice none 0 0]/\VDs (· < w.heap.size) w' l a/\Ext w w'/\ab.heap.size<=w'.heap.size)
  (λj=>l.length-j) 0 sB ⟨none,0,gC _,OwnQ.nil,O,V,U,X,gI _⟩ ?_
 clear O V U X ax;rintro j w3 ⟨ra,rc,hj,G,O,V,U,X,b0⟩;have aa:∀g',(gN ra ((CZ l).take j).length rc).ownBlock=some g'->ab.heap.size<=g'/\g'<w3.heap.size:=λg' h=>⟨G.ge h,G.lt h⟩
 have a1:((CZ l).take j).length<=1000000:=by rw [ij];omega
 by_cases am:j<l.length
 . have G:=G.ltR;obtain ⟨kb,ko,rfl,kS,hk⟩:=i8 U Ab;have rx:=hk j _ (gm am);have an:=hv.2 _ (gA am);have ao:0<=CT l[j]/\CT l[j]<=16:=by unfold CT;unfold IR at an;split<;>omega
   obtain ⟨N,hN⟩:=Int.eq_ofNat_of_zero_le ao.1;have HX:Hid (∀w1,Calls prog 153 #[l[j].val] w1 λe w'=>e = .returned (.int .i64 (N:Int))/\Ext w1 w'):=gp λw1=>by rw [<-hN];exact S6 l[j] w1
   have ac:(CZ l).take j++[gT N 0]=(CZ l).take (j+1):=by
    rw [gx Ab];congr 2;simp only [CZ,List.getElem_map,hN,Int.toNat_natCast]
   clear hk an;have a6:N<=16:=by omega
   clear ao hN;generalize l[j]=x at *;obtain ⟨xn,xk,xl⟩:=x;replace rx:Row w3 ⟨kb,ko+j*3,none⟩ [str xn,.int .u8 xk,.int .i64 xl]:=rx;unfold VD.val at HX;dsimp only at HX;generalize (CZ l).take j=ys at *;refine eK ?_;refine xA [_,_,_] ?_;intro b2 b3 a2;refine eI [_,_,_] a2 ?_;intro ap a3 a4 b4 b5;revert V X U O G;refine eE a4 ?_;intro V X U O G;refine cT (Aq (λwz=>Ext ap wz) 6 (.pure 0 (.pure 1 (.pure 2 (.fork 3 (.fork 4 (.fork 5 .tail .none) .none) .none)))) mixed AT (Ae (Aa (Aa (Ae (Aa Ag))))) ?_);intro a5 ad _;have M:(λwz=>Ext ap wz) a5:=ad;simp only at M;have ah:=a3;have ai:=O;revert V X U O G;refine eY ad ?_;intro a7 V X U O G;refine ⟨M,?_⟩;refine Tq rfl Pg (Tq rfl (Db ai) (Tq rfl (xL [_,_,_] (λwz hz=>(iW ah hz))) (tC rfl rfl (HX.out _) ?_)));rintro _ a8 ⟨⟨⟩,aq⟩;revert M V X U O G;refine eY aq ?_;intro a9 M V X U O G;refine ⟨M,?_⟩;refine AE rfl (Dj (sh:=CY) (C:=0) (D:=0) (N:=N) (z:=0) Ac Cs rfl rfl rfl rfl AT rfl rfl Ab (λ_ _=>rfl)) rfl ?_ aFh AD;rintro _ ba ⟨bb,rfl,ae,bc,bd,ar⟩;revert M V X U O G;refine eE ar ?_;intro M V X U O G;refine ⟨M,?_⟩;refine AE rfl (xS [_]) rfl ?_ aFh AD;rintro _ be ⟨bf,rfl,Z,bg⟩;have bh:=Z.blk;have au:=Z.ext;have bi:=Z.pos;have bj:=Z.size;revert ae M V X U O G;refine eE au ?_;intro ae M V X U O G;refine ⟨M,?_⟩;refine At rfl (Da (R:=λb=>ab.heap.size<=b) (sh:=EH) (z:=gT N 0) Ac Cs rfl rfl rfl rfl AT rfl rfl rfl Af (λ_ h=>by exact h.1) (i7 Af) ⟨_,_,by rw [List.length_replicate],ArrS.rowsJ Af ⟨Ab,λe=>by have:=aa _ e;omega⟩⟩ Ab Ab rfl ?_);rintro bk av bl af bm bn Y;have bo:=Y.size;have V:=iO V Y (λe=>by have:=aa _ e;omega);have X:=iY X Y (λk hk=>by have:=aa _ hk;omega);have U:=jm U Y (λb hb hT=>by have:=aa _ hT;(try dsimp only at hb);omega);clear rx;have O:=iO O Y (λe=>by have:=aa _ e;omega);clear G Y;refine C1 Pg (eV [_] [_,_,_] O ?_);intro bp bq ag br;have af:=OwnQ.fr af ag (λk hk=>⟨λh=>by (try dsimp only at hk h);omega,λe=>by have:=OwnQ.ge Af e;(try dsimp only at hk);omega⟩);revert V X U;refine eF ag ?_;intro V X U;refine Ak (Ah (Ai (Al (C1 V7 (C1 Mv (Ak ?_))))))
   exact Aw (j+1) sB ⟨some ⟨_,0,none⟩,_,Ab,by rw [<-ac];assumption,by rw [<-ac];assumption,V,U,X,Ab⟩ Ab
 . obtain rfl:j=l.length:=by omega
   have et:(CZ l).take l.length=CZ l:=by rw [<-hz,gF]
   rw [et] at G O;clear aa a1;refine eK ?_;refine eS [_,_,_] V ?_;intro b6 b7 aw _;have X:=X.fr aw Ab;have G:=OwnQ.fr G aw (λk hk=>⟨λh=>by (try dsimp only at hk h);omega,λe=>by have:=OwnQ.ge Af e;(try dsimp only at hk);omega⟩);refine C1 Pa (cT (AM (CU rfl Ac rfl rfl rfl Af rfl rfl ?_)));refine ⟨ra,rc,aj,ak,by rw [hz],?_,X⟩;exact G.ltR.ics (λb h=>⟨Ab,Ab⟩) (λb h1 h2=>⟨Ab,h2⟩)
section
variable {P:Program} {n:Nat} {l:Sl} {S:wD->Prop} {tab:Tab} {zt:Ei} {ty t e sz:Nat} {sE:Sk}
def L5 {x y z:Operand} {a b c z0 M N:Value} (T:TabOk P tab) (Z:Ch P zt) (O:Az tab t=some (.array 3 e,sz)) (U:Az tab e=some (sE,1)) (V:Cz zt t=some [z0,M,N])
 (X:ev l x=some a) (Y:ev l y=some b) (hw:ev l z=some c) (ca:a.cells = #[a]) (cb:b.cells = #[b]) (cc:c.cells = #[c]):Bh P n l S (.build t #[(0,x),(1,y),(2,z)]) ty (.agg #[a,b,c]):=by
 unfold Bh;intro s w aa pos after g h _;have hu:P.underlying t=some (.array 3 e):=(T _ _ _ O).under;obtain ⟨i0,v0,k1,k2,k3⟩:=EL Z V;obtain ⟨ie,j1,j2⟩:=(T _ _ _ U).info;have G:v0.cells = #[z0,M,N]:=k3;have hb:P.built t [(0,a),(1,b),(2,c)]=some #[a,b,c]:=by
  unfold Program.built;simp only [k1,hu,k2,j1];simp [Instr.fill,j2,ca,cb,cc,G]
 have:=run_build w t #[(0,a),(1,b),(2,c)] _ hb;simp only [execOp,gE];rw [show (#[(0,x),(1,y),(2,z)]:Array (Nat×Operand)).map (λp=>match p with|(i,x)=>(i,s.eval x)) = #[(0,a),(1,b),(2,c)] by simp [h.ev X,h.ev Y,h.ev hw],this];rfl
def L7 {k:IntKind} {i:Int} {m:Nat} {x y:Operand} {vs:lV} {v:Value} (T:TabOk P tab) (M:Az tab t=some (.array m e,sz)) (h:Az tab e=some (sE,1)) (N:sE.agg=false) (O:ev l x=some (.agg vs.toArray)) (U:ev l y=some (.int k i)) (V:0<=i) (X:i<m) (Y:vs[i.toNat]? = some v) :
 Bh P n l S (.index t x y) ty v:=by
 unfold Bh;intro s w Z pos after g G _;have hu:P.underlying t=some (.array m e):=(T _ _ _ M).under;have e1:(Instr.index t (.agg vs.toArray) (.int k i)).run P w = .ok v w:=by
  simp only [Instr.index,asIntOf,gE,gP,gw,AA hu];simp only [V,X,and_self,if_true,gE,B3 (T _ _ _ h),gw,part,Co (T _ _ _ h),N];simp [Y]
 simp [execOp,G.ev O,G.ev U,e1]
end
def CI:Shape (Int×Int) where
 sz:=2
 rep:=λ_ _ p cs=>cs=[.int .i64 p.1,.int .i64 p.2]
 len:=λh=>by rw [h];rfl
 one:=λh=>by rw [h];rfl
 mono:=λh _ _=>h
 lt:=λh=>h
def K7 (w:wD) (b o:Nat) (p:Int×Int):Prop:=Row w ⟨b,o,none⟩ [.int .i64 p.1,.int .i64 p.2]
def Bds (w:wD) (l:List (Int×Int)) (a:oA):Prop:=Arr (λ_=>True) 2 K7 w l a
def Bds.ext (h:Bds w l a) (x:Ext w w'):Bds w' l a:=h.mono aFh (λ_ _ _ _ _ h=>iN h x)
instance:LfE w w' (Bds w l a) (Bds w' l a):=⟨λx h=>Bk.Bds.ext h x⟩
def OwnQ.bds {R:nP} {B:Nat} {len cap:Nat} {xs:List (Int×Int)} (h:OwnQ CI w R B e (.slice a len cap) xs):Bds w xs a:=by
 by_cases M:xs=[]
 . exact gq M
 . obtain ⟨g,N,O,X,Y,G⟩:=h.rows M;simp only [gR] at O;obtain ⟨rfl,-,-⟩:=O;refine gt ⟨g,0,rfl,trivial,λi x U=>?_⟩;obtain ⟨cs,V,rfl⟩:=G i x U;simpa [CI,K7] using V
def OwnQ.bdsN {R:nP} {B C:Nat} {len cap:Nat} {xs:List (Int×Int)} (h:OwnQ CI w R B e (.slice a len cap) xs) (X:C<=B):Arr (λb=>C<=b/\b<w.heap.size) 2 K7 w xs a:=by
 rcases h.bds with O|⟨g,o,rfl,-,U⟩
 . exact gq O
 . by_cases G:xs=[]
   . exact gq G
   . obtain ⟨Y,M,N,Z,V,-⟩:=h.rows G;simp only [gR,gy,Addr.mk.injEq] at N;obtain ⟨⟨rfl,-⟩,-⟩:=N;exact gt ⟨g,o,rfl,⟨Ab,V⟩,U⟩
def BdN (lo hi:Nat) (w:wD) (l:List (Int×Int)) (a:oA):Prop:=Arr (λb=>lo<=b/\b<hi) 2 K7 w l a
def BdN.ext (h:BdN G e w l a) (x:Ext w w'):BdN G e w' l a:=Arr.mono h aFh (λ_ _ _ _ _ h=>iN h x)
instance:LfE w w' (BdN G e w l a) (BdN G e w' l a):=⟨λx h=>Bk.BdN.ext h x⟩
def BdN.fr {G M:Nat} {T:nP} {w w':wD} {l:List (Int×Int)} {a:oA} (h:BdN G M w l a) (x:Fr T w w') (N:∀b,G<=b/\b<M -> ¬T b):BdN G M w' l a:=Arr.mono h aFh (λb _ _ _ O h=>Row.fr h x (N b O))
instance {T:nP}:LfF T w w' (BdN G e w l a) (∀b,G<=b/\b<e -> ¬T b) (BdN G e w' l a):=⟨λx s h=>Bk.BdN.fr h x s⟩
def dF (l:List (Int×Int)) (w:wD):Ending->wD->Prop:=λe w'=> ∃a c,e = .returned (.tuple #[.slice a l.length c,.bool true])/\BdN w.heap.size w'.heap.size w' l a/\Ext w w'
def LensR (l:List (Int×Int)) (w:wD):Ending->wD->Prop:=λe w'=> ∃a c,e = .returned (.tuple #[.slice a l.length c,.bool true])/\Bds w' l a/\Ext w w'
def LensR.ret {e:Ending} (h:LensR l w e w'):∃v,e = .returned v:=by
 obtain ⟨_,_,h,-⟩:=h;exact ⟨_,h⟩
def Nx (vs:List VD) (hl:vs.length<=1000000) (b:BoxV) (Y:¬(b.ok/\CS vs)) (S:nP) (a:oA) (c:Nat) (w:wD) (U:VDs S w vs a) :
 Calls prog 72 #[.slice a vs.length c,.agg #[.int .i64 b.v,.int .i64 b.l,.int .i64 b.i]] w λe w'=>e = .returned (.tuple #[.slice none 0 0,.bool false])/\Ext w w':=by
 have X:=iK w;obtain ⟨G,M,N⟩:=b;simp only [BoxV.ok] at Y;have HN:Hid (CS vs \/ ∀w1,VDs S w1 vs a->Calls prog 112 #[.slice a vs.length c,.slice none 0 0] w1 λe w'=>e = .returned (.tuple #[.agg #[.slice none 0 0,.slice none 0 0,.slice none 0 0],.int .i64 3])/\Ext w1 w'):=
  gp (by by_cases h:CS vs;exact gq h;exact gt λw1 Z=>YK vs hl h S a c w1 Z)
 have O:(0<=G/\G<=1000)->(0<=M/\M<=1000)->(0<=N/\N<=1000) -> ¬CS vs:=λZ h2 h3 h=>Y ⟨⟨Z,h2,h3⟩,h⟩
 clear Y;refine Ad func72 ntmps72 rfl rfl (cS (Dl [_,_,_] rfl rfl rfl ?_));intro b1 w2 n3;have V:=n3.blk;dsimp only at V;have x5:=n3.ext;revert U X;refine eE x5 ?_;intro U X;refine eK ?_;refine C1 (L5 Ac Cs rfl rfl rfl rfl rfl rfl rfl rfl rfl) (C1 Mv (cT ?_));refine As ?_;refine AG (ι:=Nat) (λj=>[(0,.slice a vs.length c),(3,.pointer (some ⟨b1,0,none⟩)),(4,.slice none 0 0),(5,.bool false),(19,.agg #[.int .i64 G,.int .i64 M,.int .i64 N]),(20,.int .i64 j)])
  (λj w'=>j<=3/\(0<j->0<=G/\G<=1000)/\(1<j->0<=M/\M<=1000)/\(2<j->0<=N/\N<=1000)/\Blk w' b1 [.int .i64 G,.int .i64 M,.int .i64 N]/\VDs S w' vs a/\Ext w w') (λj=>3-j) 0 sB ⟨Ab,Ab,Ab,Ab,V,U,X⟩ ?_
 clear V U X;rintro j w1 ⟨hj,o1,o2,o3,V,U,X⟩;by_cases af:j<3
 . obtain ⟨x,hx,q1,q2,q3⟩:∃x,[ii .i64 G,.int .i64 M,.int .i64 N][((j:Int)).toNat]? = some (.int .i64 x)/\(j=0->x=G)/\(j=1->x=M)/\(j=2->x=N):=by
    rw [Int.toNat_natCast];rcases (show j=0\/j=1\/j=2 by omega) with rfl|rfl|rfl
    . exact ⟨G,rfl,λ_=>rfl,λh=>by omega,λh=>by omega⟩
    . exact ⟨M,rfl,λh=>by omega,λ_=>rfl,λh=>by omega⟩
    . exact ⟨N,rfl,λh=>by omega,λh=>by omega,λ_=>rfl⟩
   focus
    refine eK ?_;refine C1 (L7 (vs:=[.int .i64 G,.int .i64 M,.int .i64 N]) Ac rfl rfl rfl rfl rfl Ab Ab hx) (eK ?_);refine BY rfl rfl rfl (λaa=>?_) (λaa=>?_);refine kT ?_;rotate_left;refine eK ?_;refine Ay rfl (λab=>?_) (λab=>?_);refine kT ?_;rotate_left;refine eK ?_;rotate_left
   . exact ⟨rfl,X⟩
   . exact ⟨rfl,X⟩
   . exact Aw (j+1) sB ⟨Ab,λ_=>by omega,λ_=>by omega,λ_=>by omega,Af,Af,X⟩ Ab
 . obtain rfl:j=3:=by omega
   refine kC ((HN.out.resolve_left (O Ab Ab Ab)) _ Af) ?_;rintro _ ag ⟨⟨⟩,ac⟩;have X:=X.ext ac;refine eK ?_;refine xA [_,_,_] ?_;intro ah ai ad;refine eI [_,_,_] ad ?_;intro aj _ ae _ _;have X:=X.ext ae;refine kT ?_;exact ⟨rfl,X⟩
def L8 (vs:List VD) (b:BoxV) (hb:b.ok) (hv:CS vs) (S:nP) (a:oA) (c:Nat) (w:wD) (M:VDs S w vs a) :
 Calls prog 72 #[.slice a vs.length c,.agg #[.int .i64 b.v,.int .i64 b.l,.int .i64 b.i]] w (dF (CF vs b) w):=by
 have X:=iK w;replace M:VDs (· < w.heap.size) w vs a:=M.lt2.wide λ_ h=>h.2
 have hl:vs.length<=1000000:=by have:=hv.1;omega
 have HN:=gp (λw1 (h:VDs (· < w.heap.size) w1 vs a)=>YL vs hv (· < w.heap.size) a c w1 h);have HL:Hid (∀j (hj:j<vs.length),((CT vs[j]).toNat:Int)=CT vs[j]/\Jk b vs[j]=if vs[j].kind=3 then (0,b.l) else (CT vs[j],CT vs[j])):=gp λj hj=>⟨by
  have au:=hv.2 _ (gA hj);unfold IR at au;unfold CT;split<;>omega,rfl⟩
 have hz:(CZ vs).length=vs.length:=by simp [CZ]
 unfold CF;have ab:∀j (hj:j<vs.length),(vs.map (Jk b)).take j++[Jk b vs[j]]=(vs.map (Jk b)).take (j+1):=λj hj=>by
  rw [gx (by simpa using hj),List.getElem_map]
 have av:(vs.map (Jk b)).length=vs.length:=by simp
 obtain ⟨⟨o1,o2⟩,⟨o3,o4⟩,o5,o6⟩:=hb;obtain ⟨bv,bl,bi⟩:=b;simp only at o1 o2 o3 o4 o5 o6 HL;generalize bn:vs.map (Jk ⟨bv,bl,bi⟩)=ms at *;clear hv;refine Ad func72 ntmps72 rfl rfl (cS (Dl [_,_,_] rfl rfl rfl ?_));intro b1 w2 n3;have U:=n3.blk;dsimp only at U;have x5:=n3.ext;have p6:=n3.pos;have z7:=n3.size;revert X M;refine eE x5 ?_;intro X M;refine eK ?_;refine C1 (L5 Ac Cs rfl rfl rfl rfl rfl rfl rfl rfl rfl) (C1 Mv (cT ?_));refine As ?_;refine AG (ι:=Nat) (λj=>[(0,.slice a vs.length c),(3,.pointer (some ⟨b1,0,none⟩)),(4,.slice none 0 0),(5,.bool false),(19,.agg #[.int .i64 bv,.int .i64 bl,.int .i64 bi]),(20,.int .i64 j)])
  (λj w'=>j<=3/\Blk w' b1 [.int .i64 bv,.int .i64 bl,.int .i64 bi]/\VDs (· < w.heap.size) w' vs a/\Ext w w') (λj=>3-j) 0 sB ⟨Ab,U,M,X⟩ ?_
 clear U M X;rintro j w1 ⟨hj,U,M,X⟩;by_cases bo:j<3
 . obtain ⟨x,hx,q1,q2⟩:∃x,[ii .i64 bv,.int .i64 bl,.int .i64 bi][((j:Int)).toNat]? = some (.int .i64 x)/\0<=x/\x<=1000:=by
    rw [Int.toNat_natCast];rcases (show j=0\/j=1\/j=2 by omega) with rfl|rfl|rfl
    . exact ⟨bv,rfl,o1,o2⟩
    . exact ⟨bl,rfl,o3,o4⟩
    . exact ⟨bi,rfl,o5,o6⟩
   refine eK ?_;refine C1 (L7 (vs:=[.int .i64 bv,.int .i64 bl,.int .i64 bi]) Ac rfl rfl rfl rfl rfl Ab Ab hx) (C1 Pa (cN (C1 Mv (C1 V3 (C1 Mv (DK (C1 Mv (DK (C1 V5 (C1 K5 (cT (C6 (Ao (Ah (Ai (Al (C1 V7 (C1 Mv (Ak ?_)))))))))))))))))));exact Aw (j+1) sB ⟨Ab,Af,Af,X⟩ Ab
 . obtain rfl:j=3:=by omega
   have bp:=U.lt;refine kQ (HN.out _ Af) ?_;rintro _ bq ⟨ak,aw,a2,a3,⟨⟩,ad,ax⟩;revert U M X;refine eY ax ?_;intro br U M X;refine eK ?_;refine xA [_,_,_] ?_;intro bs a4 al;refine eI [_,_,_] al ?_;intro aa ah am a5 a6;revert ad U M X;refine eE am ?_;intro ad U M X;refine C1 Pa (cT (Aj (cS (C1 Mv (C1 V2 (cT (Lb (Ao (Ai (cS (C1 Pa (cT (Aj (cS (C1 Pg (C1 (Pl ah) (C1 Pz (C1 Mv (cT ?_)))))))))))))))))));refine As ?_;refine AG (ι:=Nat×oA×Nat) (λx=>[(0,.slice a vs.length c),(3,.pointer (some ⟨b1,0,none⟩)),(10,.slice x.2.1 (ms.take x.1).length x.2.2),(38,.slice ak vs.length aw),(39,.int .i64 vs.length),(40,.int .i64 x.1)])
    (λx w'=>x.1<=vs.length/\OwnQ CI w' (λ_=>False) aa.heap.size 135 (.slice x.2.1 (ms.take x.1).length x.2.2) (ms.take x.1)/\Blk w' b1 [.int .i64 bv,.int .i64 bl,.int .i64 bi]/\ICs (· < aa.heap.size) w' (CZ vs) ak/\VDs (· < w.heap.size) w' vs a/\Ext w w'/\aa.heap.size<=w'.heap.size)
    (λx=>vs.length-x.1) (0,none,0) sB ⟨gC _,OwnQ.nil,U,ad.wide (λb h=>by omega),M,X,gI _⟩ ?_
   have an:=X.size;clear U ad M X ah;rintro ⟨j,ra,rc⟩ w3 ⟨ay,G,U,O,M,X,bt⟩;simp only at ay G;have Z:∀g',(gN ra (ms.take j).length rc).ownBlock=some g'->aa.heap.size<=g'/\g'<w3.heap.size:=λg' h=>⟨G.ge h,G.lt h⟩
   have bu:(ms.take j).length<=1000000:=by rw [ij];omega
   by_cases ac:j<vs.length
   . obtain ⟨kb,ko,rfl,kS,hk⟩:=i8 M Ab;have rx:=hk j _ (gm ac);obtain ⟨db,bw,rfl,dS,hd⟩:=O.get (by intro e;rw [e] at hz;simp at hz;omega);obtain ⟨xa,xc,ry,-⟩:=hd j _ (gm (show j<(CZ vs).length by omega));obtain ⟨f1,f2⟩:=HL.out j ac;have ai:((CZ vs)[j]'(by omega)).length=(CT vs[j]).toNat:=by simp [CZ]
     rw [ai] at ry;have hn:=ab j ac;rw [f2] at hn;clear hk hd ai f2 HL ab;rw [<-f1] at hn;clear f1;generalize (CT vs[j]).toNat=N at *;generalize vs[j]=x at *;obtain ⟨xn,xk,xl⟩:=x;replace rx:Row w3 ⟨kb,ko+j*3,none⟩ [str xn,.int .u8 xk,.int .i64 xl]:=rx;simp only at hn;by_cases ao:xk=3
     . rw [AQ ao] at hn;generalize ms.take j=ys at *;refine eK ?_;refine C1 (Pw rx) (eK ?_);refine C1 (xB [_,_]) (Ax (xS [_,_]) rfl ?_ aFh);rintro _ bx ⟨bz,rfl,ae,b0⟩;have b2:=ae.blk;have az:=ae.ext;have b3:=ae.pos;have b4:=ae.size;revert U X M O G;refine eE az ?_;intro U X M O G;refine Da (R:=λ_=>False) (sh:=CI) (z:=(0,bl)) Ac Cs rfl rfl rfl rfl AT rfl rfl rfl Af (λ_ h=>by exact h) (i7 Af) rfl Ab Ab rfl ?_;rintro b5 ap a7 a8 a9 ba V;have bb:=V.size;have U:=iO U V (λe=>by have:=Z _ e;omega);have X:=iY X V (λk hk=>by have:=Z _ hk;omega);have M:=jm M V (λb hb hT=>by have:=Z _ hT;(try dsimp only at hb);omega);have O:=ICs.fr O V (λb hb hT=>by have:=Z _ hT;(try dsimp only at hb);omega);clear ry rx G V;refine C1 Pa (Ak (Ah (Ai (Al (C1 V7 (C1 Mv (Ak ?_)))))));exact Aw (j+1,some ⟨_,0,none⟩,_) (by dsimp only;rw [<-hn];(refine Am rfl ?_;refine Am rfl ?_;refine Am rfl ?_;refine Am rfl ?_;refine Am rfl ?_;refine Am rfl ?_;exact BB)) ⟨by (try dsimp only);omega,by dsimp only;rw [<-hn];assumption,U,O,M,X,Ab⟩ (by (try dsimp only);omega)
     . rw [AB ao] at hn;generalize ms.take j=ys at *;refine eK ?_;refine C1 (Pw rx) (eK ?_);refine C1 (xB [_,_]) (Ax (xS [_,_]) rfl ?_ aFh);rintro _ b6 ⟨b7,rfl,af,b8⟩;have b9:=af.blk;have a0:=af.ext;have ca:=af.pos;have cb:=af.size;revert U X M O G;refine eE a0 ?_;intro U X M O G;refine Da (R:=λ_=>False) (sh:=CI) (z:=((N:Int),(N:Int))) Ac Cs rfl rfl rfl rfl AT rfl rfl rfl Af (λ_ h=>by exact h) (i7 Af) rfl Ab Ab rfl ?_;rintro cc aq bc bd be bf Y;have bg:=Y.size;have U:=iO U Y (λe=>by have:=Z _ e;omega);have X:=iY X Y (λk hk=>by have:=Z _ hk;omega);have M:=jm M Y (λb hb hT=>by have:=Z _ hT;(try dsimp only at hb);omega);have O:=ICs.fr O Y (λb hb hT=>by have:=Z _ hT;(try dsimp only at hb);omega);clear ry rx G Y;refine C1 Pa (Ak (Ah (Ai (Al (C1 V7 (C1 Mv (Ak ?_)))))));exact Aw (j+1,some ⟨_,0,none⟩,_) (by dsimp only;rw [<-hn];(refine Am rfl ?_;refine Am rfl ?_;refine Am rfl ?_;refine Am rfl ?_;refine Am rfl ?_;refine Am rfl ?_;exact BB)) ⟨by (try dsimp only);omega,by dsimp only;rw [<-hn];assumption,U,O,M,X,Ab⟩ (by (try dsimp only);omega)
   . obtain rfl:j=vs.length:=by omega
     rw [show ms.take vs.length=ms by rw [<-av,gF]] at *;refine eK ?_;refine C1 (xB [_,_]) (Ax (xS [_,_]) rfl ?_ aFh);rintro _ cd ⟨ce,rfl,ag,cf⟩;have cg:=ag.blk;have a1:=ag.ext;have ch:=ag.pos;have ci:=ag.size;revert X G;refine eE a1 ?_;intro X G;refine Da (R:=λ_=>False) (sh:=CI) (z:=(0,bi)) Ac Cs rfl rfl rfl rfl AT rfl rfl rfl Af (λ_ h=>by exact h) (i7 Af) rfl Ab Ab rfl ?_;rintro cj ar bh bj bk bm aj;have X:=iY X aj (λk hk=>by have:=Z _ hk;omega);clear G aj;refine kT ?_;exact ⟨_,_,rfl,OwnQ.bdsN Af an,X⟩
def UN (vs:List VD) (b:BoxV) (G:b.ok) (M:CS vs) (S:nP) (a:oA) (c:Nat) (w:wD) (N:VDs S w vs a) :
 Calls prog 72 #[.slice a vs.length c,.agg #[.int .i64 b.v,.int .i64 b.l,.int .i64 b.i]] w (LensR (CF vs b) w):=
 (L8 vs b G M S a c w N).mono λ_ _ ⟨a,c,h1,h2,h3⟩=>⟨a,c,h1,Arr.mono h2 (λ_ _=>trivial) (λ_ _ _ _ _ h=>h),h3⟩
def Qm (l:List (Int×Int)) (y:Int) (j:Nat) (h:j<l.length):DA (l.take (j+1)) y=FK (DA (l.take j) y) (LK l[j] y):=by
 unfold DA;rw [gx h,List.foldl_append];rfl
def YM (vs:List VD) (hl:vs.length<=1000000) (b:BoxV) (S:nP) (a:oA) (c:Nat) (w:wD) (hs:VDs S w vs a) :
 Calls prog 43 #[.slice a vs.length c,.agg #[.int .i64 b.v,.int .i64 b.l,.int .i64 b.i]] w λe w'=>e = .returned (.tuple #[.int .i64 (FX vs b).1,.int .i64 (FX vs b).2])/\Ext w w':=by
 have X:=iK w;by_cases U:b.ok/\CS vs
 . have HL:=gp (λw1 h=>UN vs b U.1 U.2 S a c w1 h);have hb:=Oj U.1 U.2;have am:=JW vs b;have hy:1<=2*b.v+1/\2*b.v+1<=2001:=by have:=U.1.1;omega
   have V:∀j,1<=DA ((CF vs b).take j) (2*b.v+1)/\DA ((CF vs b).take j) (2*b.v+1)<=1099511627777:=λj=>
    Nr _ 1 _ hy.1 (λp hp=>by have:=hb p (List.mem_of_mem_take hp);omega) Ab Ab
   have HS:=gp (λj h=>Qm (CF vs b) (2*b.v+1) j h);unfold FX;rw [AQ U];clear U;obtain ⟨M,Z,bi⟩:=b;simp only at hy V HS HL ⊢;have hE:DA (CF vs ⟨M,Z,bi⟩) (2*M+1)=DA ((CF vs ⟨M,Z,bi⟩).take (CF vs ⟨M,Z,bi⟩).length) (2*M+1):=by rw [gF]
   generalize CF vs ⟨M,Z,bi⟩=N at *;have HB:=gp hb;have H1:=gp V;clear hb V;refine Ad func43 ntmps43 rfl rfl (cS (eB [_,_,_] ?_));intro b1 w2 O x5 _ _;revert hs X;refine eE x5 ?_;intro hs X;refine kQ (HL.out _ Af) ?_;rintro _ ap ⟨a8,c9,⟨⟩,G,ad⟩;revert O X;refine eE ad ?_;intro O X;refine C1 Mv (C1 Px (C1 Px (C1 Pa (C1 Pa (cT (Aj (cS (C1 Mv (C1 Pt (cT (AY rfl (Ao (Ai (cS (C1 Pa (cT (Aj (cS (C1 Mv (C1 Pz (C1 Mv (cT ?_))))))))))))))))))))));have hm:iG .i64 (2*M)=2*M:=gz _ Ab;refine As ?_;refine AG (ι:=Nat) (λj=>[(3,.pointer (some ⟨b1,0,none⟩)),(8,.int .i64 (DA (N.take j) (2*M+1))),(19,.slice a8 N.length c9),(20,.int .i64 N.length),(21,.int .i64 j)])
    (λj w'=>j<=N.length/\Blk w' b1 [.int .i64 M,.int .i64 Z,.int .i64 bi]/\Bds w' N a8/\Ext w w') (λj=>N.length-j) 0 sB ⟨gC _,O,G,X⟩ ?_
   clear O G X hs;rintro j w3 ⟨hj,O,G,X⟩;have h1:=H1.out j;by_cases Y:j<N.length
   . obtain ⟨kb,ko,rfl,-,hk⟩:=i8 G Ab;have rx:=hk j _ (gm Y);have hp:=HB.out _ (gA Y);have hq:=HS.out j Y;have ae:=Wa hy.1 hp.1 hp.2.1;have HC:=gp (λw1=>Ql N[j] (2*M+1) Ab Ab Ab w1);have HP:=gp (λw1=>Nw (DA (N.take j) (2*M+1)) (LK N[j] (2*M+1)) h1 ae w1);clear hk;generalize LK N[j] (2*M+1)=q at *;generalize DA (N.take j) (2*M+1)=s at *;generalize N[j]=p at *;obtain ⟨p1,p2⟩:=p;replace rx:Row w3 ⟨kb,ko+j*2,none⟩ [.int .i64 p1,.int .i64 p2]:=rx;simp only at hp HC;refine eK ?_;refine xA [_,_] ?_;intro aq ar af;refine eI [_,_] af ?_;intro au ag ah _ _;revert O X G;refine eE ah ?_;intro O X G;refine eK ?_;refine A3 [_,_] Ac rfl rfl rfl ag rfl rfl rfl (eK ?_);refine C1 (Ib rfl rfl hm) (C1 V7 (cC rfl (HC.out _) ?_));rintro _ an ⟨⟨⟩,ai⟩;revert O X G;refine eE ai ?_;intro O X G;refine cC rfl (HP.out _) ?_;rintro _ ao ⟨⟨⟩,aa⟩;revert O X G;refine eE aa ?_;intro O X G;refine C1 Pa (Ak (Ah (Ai (Al (C1 V7 (C1 Mv (Ak ?_)))))));exact Aw (j+1) (by rw [hq];(refine Am rfl ?_;refine Am rfl ?_;refine Am rfl ?_;refine Am rfl ?_;refine Am rfl ?_;exact BB)) ⟨Ab,Af,Af,X⟩ Ab
   . obtain rfl:j=N.length:=by omega
     rw [<-hE] at *;generalize DA N (2*M+1)=s at *;by_cases ab:1099511627776<s
     . rw [AQ ab];refine kT ?_;exact ⟨rfl,X⟩
     . rw [AB ab];refine kT ?_;exact ⟨rfl,X⟩
 . have HL:=gp (λw1 h=>Nx vs hl b U S a c w1 h);rw [show FX vs b=(0,1) by unfold FX;rw [AB U]];clear U;obtain ⟨M,Z,bi⟩:=b;refine Ad func43 ntmps43 rfl rfl (cS (Dl [_,_,_] rfl rfl rfl ?_));intro av aw ac;have aj:=ac.blk;dsimp only at aj;have ak:=ac.ext;revert hs X;refine eE ak ?_;intro hs X;refine kC (HL.out _ Af) ?_;rintro _ ax ⟨⟨⟩,al⟩;have X:=X.ext al;refine kT ?_;exact ⟨rfl,X⟩
structure EX.wf (e:EX):Prop where
 name:e.name.length<=9223372036854775807
 g:e.g.wf
 few:e.g.vars.length<=1000000
structure EX.sits (S:nP) (w:wD) (e:EX) (va pa ma:oA) (vc:Nat):Prop where
 g:e.g.sits S w va pa ma
 p:PDsC S w e.g.procs pa
 room:e.g.vars.length<=vc
def EX.sits.ext {S:nP} {w w':wD} {e:EX} {G M N:oA} {vc:Nat} (h:e.sits S w G M N vc) (x:Ext w w'):e.sits S w' G M N vc:=⟨h.g.ext x,h.p.ext x,h.room⟩
instance {e:EX} {M N:oA}:LfE w w' (e.sits S w a M N vc) (e.sits S w' a M N vc):=⟨λx h=>Bk.EX.sits.ext h x⟩
def EX.sits.fr {S T:nP} {w w':wD} {e:EX} {G M N:oA} {vc:Nat} (h:e.sits S w G M N vc) (x:Fr T w w') (O:∀b,S b -> ¬T b):e.sits S w' G M N vc:=⟨h.g.fr x O,h.p.fr x O,h.room⟩
instance {T:nP} {e:EX} {M N:oA}:LfF T w w' (e.sits S w a M N vc) (∀b,S b -> ¬T b) (e.sits S w' a M N vc):=⟨λx s h=>Bk.EX.sits.fr h x s⟩
def EX.sits.ltA {S:nP} {w:wD} {e:EX} {G M N:oA} {vc:Nat} (h:e.sits S w G M N vc):e.sits (· < w.heap.size) w G M N vc:=⟨h.g.ltA,h.p.ltA,h.room⟩
def ZV (M:g.wf) (S:nP) (N:oA) (vc:Nat) (G:oA) (X:Nat) (O:oA) (Y:Nat) (w:wD) (Z:g.sits S w N G O) (U:PDsC S w g.procs G) (V:g.vars.length<=vc) :
 Calls prog 41 #[.agg (g.cells N vc G X O Y).toArray] w λe w'=>e = .returned (.bool (decide g.acc))/\Ext w w':=
 (dE g M S N vc G X O Y w Z U V).mono λe w' ⟨q,h1,h2,h3⟩=>⟨by rw [h1];congr 2;cases q;exact (decide_eq_false (λh=>by cases h2.2 h)).symm;exact (decide_eq_true (h2.1 rfl)).symm,h3⟩
def J7 (e:EX) (hw:e.wf) (S:nP) (va:oA) (vc:Nat) (pa:oA) (pc:Nat) (ma:oA) (mc:Nat) (w:wD) (hs:e.sits S w va pa ma vc) :
 Calls prog 21 #[.agg (e.cells va vc pa pc ma mc).toArray] w λr w'=>r = .returned (.bool (decide e.valid))/\Ext w w':=by
 have X:=iK w;obtain ⟨ac,M,O⟩:=hw;obtain ⟨V,hp,ad⟩:=hs.ltA;clear hs;have Z:=gp (λw1=>JV e.name w1 ac);have HC:=gp (λw1 U N=>ZV M (· < w.heap.size) va vc pa pc ma mc w1 U N ad);have HE:=gp (λw1 h=>YM e.g.vars O e.box (· < w.heap.size) va vc w1 h);by_cases U:e.num
 . unfold EX.cells EX.valid;unfold EX.num at U ⊢;obtain ⟨en,ep,ef,⟨bv,bl,bi⟩,g⟩:=e;simp only at ac M O V hp ad Z HC HE U ⊢;obtain ⟨o1,⟨o2,o3⟩,o4,o5⟩:=U;rw [o1] at Z;simp only [o1,o2,o3,o4,o5,true_and,and_self];have G:=V.vars;refine Ad func21 ntmps21 rfl rfl (cS (eB [_,_,_,_,_,_,_,_,_,_,_,_] ?_));intro b1 w2 Y x5 _ _;revert X V hp G;refine eE x5 ?_;intro X V hp G;refine kC (Z.out _) ?_;rintro _ w9 ⟨⟨⟩,x8⟩;revert Y X V hp G;refine eE x8 ?_;intro Y X V hp G;refine eK ?_;by_cases N:g.acc
   . have HI:=gp (λw1 h=>Qh M N.1 (· < w.heap.size) va vc pa pc ma mc w1 h);rw [<-PG.pinv_eq] at HI;have HD:=gp (λva vc pa pc ma mc w1 S U al h3=>ZV (PG.pinv_wf M N.1) S va vc pa pc ma mc w1 U al h3);rw [decide_eq_true N] at HC;simp only [N,true_and];clear N M;refine kC (HC.out _ Af Af) ?_;rintro _ a9 ⟨⟨⟩,am⟩;revert Y X V G;refine eE am ?_;intro Y X V G;refine eK ?_;refine Ax (AR AT rfl (HI.out _ Af) (λ_ _ ⟨_,_,_,_,_,_,h⟩=>⟨_,h.1⟩)) rfl ?_ aFh;rintro _ ax ⟨ay,az,a0,a1,a2,a3,⟨⟩,aa,ab,a4,ae⟩;revert Y X G;refine eE ae ?_;intro Y X G;refine eK ?_;refine xA [_,_,_,_,_,_] ?_;intro a5 a6 af;refine eI [_,_,_,_,_,_] af ?_;intro a7 a8 ag _ _;revert aa ab Y X G;refine eE ag ?_;intro aa ab Y X G;refine eK ?_;by_cases h3:g.pinv.acc
     . rw [decide_eq_true h3] at HD;simp only [h3,true_and];generalize g.pinv=u at *;generalize FX g.vars ⟨bv,bl,bi⟩=r at *;obtain ⟨n,k⟩:=r;simp only at HE ⊢;refine kC (HD.out _ _ _ _ _ _ _ _ Af Af Af) ?_;rintro _ ba ⟨⟨⟩,an⟩;revert Y X G;refine eE an ?_;intro Y X G;refine kC (HE.out _ Af) ?_;rintro _ bb ⟨⟨⟩,ao⟩;have X:=X.ext ao;refine eK ?_;by_cases hk:k=0
       . subst hk;simp only [true_and];refine kR ?_;exact ⟨rfl,X⟩
       . simp only [hk,false_and,decide_false];refine kR ?_;exact ⟨rfl,X⟩
     . rw [decide_eq_false h3] at HD;simp only [h3,false_and,decide_false];generalize g.pinv=u at *;refine kC (HD.out _ _ _ _ _ _ _ _ Af Af Af) ?_;rintro _ bc ⟨⟨⟩,ap⟩;have X:=X.ext ap;refine kR ?_;exact ⟨rfl,X⟩
   . rw [decide_eq_false N] at HC;simp only [N,false_and,decide_false];clear N M;refine kC (HC.out _ Af Af) ?_;rintro _ bd ⟨⟨⟩,aq⟩;have X:=X.ext aq;refine kR ?_;exact ⟨rfl,X⟩
 . rw [decide_eq_false (λh=>U h.1)];unfold EX.cells;unfold EX.num at U;obtain ⟨en,ep,ef,⟨bv,bl,bi⟩,g⟩:=e;simp only at ac M O V hp ad Z HC HE U ⊢;clear HC HE V hp M;cases o1:Cj en
   . rw [o1] at Z;refine Ad func21 ntmps21 rfl rfl (cS (eB [_,_,_,_,_,_,_,_,_,_,_,_] ?_));intro be bf bg ar _ _;have X:=X.ext ar;refine kC (Z.out _) ?_;rintro _ bh ⟨⟨⟩,au⟩;have X:=X.ext au;refine kR ?_;exact ⟨rfl,X⟩
   . rw [o1] at Z;have N:¬((1<=ep/\ep<=1000)/\0<=ef/\ef<=1000000):=λh=>U ⟨o1,h⟩
     refine Ad func21 ntmps21 rfl rfl ?_
     focus
      refine cS (eB [_,_,_,_,_,_,_,_,_,_,_,_] ?_);intro bj bk ah av _ _;have X:=X.ext av;refine kC (Z.out _) ?_;rintro _ bm ⟨⟨⟩,aw⟩;revert ah X;refine eE aw ?_;intro ah X;refine eK ?_;refine BY rfl rfl rfl (λai=>?_) (λai=>?_);refine kR ?_;rotate_left;refine eK ?_;refine BY rfl rfl rfl (λaj=>?_) (λaj=>?_);refine kR ?_;rotate_left;refine eK ?_;refine BY rfl rfl rfl (λak=>?_) (λak=>?_);refine kR ?_;rotate_left;refine kR ?_;rotate_left
     all_goals first|exact ⟨rfl,X⟩|exact absurd Ab N
def PgC (u:PG) (w:wD):Ending->wD->Prop:=λe w'=> ∃va vc pa pc ma mc,e = .returned (.agg (u.cells va vc pa pc ma mc).toArray)/\u.sits (λb=>w.heap.size<=b/\b<w'.heap.size) w' va pa ma/\PDsC (λb=>w.heap.size<=b/\b<w'.heap.size) w' u.procs pa/\u.vars.length<=vc/\Ext w w'
def PgC.ret {u:PG} {e:Ending} (h:PgC u w e w'):∃v,e = .returned v:=by
 obtain ⟨_,_,_,_,_,_,h,-⟩:=h;exact ⟨_,h⟩
def aL {N O:oA} {U V M:Nat} {xs:List PD} {Y S2:nP} (hx:xs=g.procs) (hv:VDs Y w' g.vars a) (hc:g.vars.length<=vc) (ho:OwnL EP w' M e (.slice N xs.length U) xs) (hm:g.main.sits S2 w' O) (X:Ext w w') (k1:∀b,Y b->w.heap.size<=b) (k2:∀b,S2 b->w.heap.size<=b) (kM:w.heap.size<=M) :
 PgC g w (.returned (.agg #[.slice a g.vars.length vc,.slice N xs.length U,.int .u8 g.main.kind,.int .i64 g.main.num,str g.main.name,.slice O g.main.kids.length V])) w':=by
 subst hx;have Z:=PDsC.wide (PDsC.lt2 (ho.pdsC (S:=λb=>M<=b) (λb hb=>hb))) (S':=λb=>w.heap.size<=b/\b<w'.heap.size) λb h=>⟨Ab,h.2⟩
 exact ⟨a,vc,N,U,O,V,rfl,⟨hv.lt2.wide λb h=>⟨k1 b h.1,h.2⟩,Z.pds,iR (Gg _ _ hm) λb h=>⟨k2 b h.1,h.2⟩⟩,Z,hc,X⟩
set_option maxHeartbeats 8000000 in
def Wx (g:PG) (hf:g.few) (S:nP) (va:oA) (vc:Nat) (pa:oA) (pc:Nat) (ma:oA) (mc:Nat) (w:wD) (hs:g.sits S w va pa ma) :
 Calls prog 31 #[.agg (g.cells va vc pa pc ma mc).toArray] w (PgC g w):=by
 have X:=iK w;obtain ⟨nv,np,bs,a2⟩:=hf;have HI:=gp (Jl g.main bs);have HC:=gp (If g.vars Ab);have HQ:=gp a2;clear a2;have hs:=hs.ltA;refine Ad func31 ntmps31 rfl rfl (cS (eB [_,_,_,_,_,_] ?_));intro b1 w2 h4 x5 p6 z7;revert X hs;refine eE x5 ?_;intro X hs;refine eA [_,_,_,_,_,_] ?_;intro b8 w9 N bt d0 d1;revert h4 X hs;refine eE bt ?_;intro h4 X hs;refine cT ?_;refine FM (ι:=Nat×oA×Nat×oA×Nat) (λx=>[(1,.pointer (some ⟨b1,0,none⟩)),(2,.pointer (some ⟨b8,0,none⟩)),(3,.pointer (some ⟨x.1,0,none⟩))])
  (λx w'=>Blk w' x.1 [.slice x.2.1 g.vars.length x.2.2.1,.slice none 0 0,.int .u8 g.main.kind,.int .i64 g.main.num,str g.main.name,.slice x.2.2.2.1 g.main.kids.length x.2.2.2.2]/\VDs (λb=>b8<b/\b≠x.1/\b<w'.heap.size) w' g.vars x.2.1/\g.main.sits (λb=>b8<b/\b≠x.1/\b<w'.heap.size) w' x.2.2.2.1/\b8<x.1/\x.1<w'.heap.size/\g.vars.length<=x.2.2.1 /\
   Blk w' b1 [.slice va g.vars.length vc,.slice pa g.procs.length pc,.int .u8 g.main.kind,.int .i64 g.main.num,str g.main.name,.slice ma g.main.kids.length mc]/\Blk w' b8 [.slice none 0 0,.slice none 0 0,.int .u8 0,.int .i64 0,str [],.slice none 0 0]/\g.sits (· < w.heap.size) w' va pa ma/\Ext w w') ?_ ?_
 . clear HQ;have hv:=hs.vars;have ac:=hs.main
   focus
    refine Aq (λwz=>Ext w9 wz) 8 (.pure 0 (.pure 1 (.pure 3 (.pure 4 (.fork 2 (.fork 5 (.pure 6 (.fork 7 .tail .none)) (.fork 7 (.fork 5 (.pure 6 .tail) .none) .none)) (.fork 7 (.fork 2 (.fork 5 (.pure 6 .tail) .none) .none) .none)))))) mixed AT (Aa Ag) ?_;intro bu a3 _;have G:(λwz=>Ext w9 wz) bu:=a3;simp only at G;have a4:=h4;revert N h4 X hs hv ac;refine eY a3 ?_;intro d2 N h4 X hs hv ac;refine ⟨G,?_⟩;refine eT ?_;refine Tq rfl (xL [_,_,_,_] (λwz hz=>(iW a4 hz))) (AE rfl (AR AT rfl (HC.out _ _ _ _ Af) (λ_ _ h=>h.ret)) rfl ?_ aFh ?kra5);rintro _ b6 ⟨d3,d4,⟨⟩,ab,bv,b7⟩;revert G N h4 X hs ac;refine eY bv ?_;intro b9 G N h4 X hs ac;refine ⟨G,?_⟩;refine AE rfl (AR AT rfl (HI.out _ _ _ _ Af) (λ_ _ h=>h.ret)) rfl ?_ aFh ?kra13;rintro _ ca ⟨cb,cc,⟨⟩,af,a5⟩;revert ab G N h4 X hs;refine eY a5 ?_;intro cd ab G N h4 X hs;refine ⟨G,?_⟩;refine Tq rfl (xB [_,_,_,_,_,_]) (AE rfl (Bb Cs rfl) rfl ?_ aFh AD);rintro _ ce ⟨cf,rfl,ag⟩;have aq:=ag.blk;dsimp only at aq;have a6:=ag.ext;have cg:=ag.pos;have ch:=ag.size;revert af ab G N h4 X hs;refine eE a6 ?_;intro af ab G N h4 X hs;refine ⟨G,?_⟩;refine At rfl (eS [_,_,_,_,_,_] aq ?_);intro ci cj a7 ck;revert af ab N h4 X hs;refine eF a7 ?_;intro af ab N h4 X hs;refine Ak ?_;rotate_left;refine AE rfl (Bb Cs rfl) rfl ?_ aFh AD;rintro _ cl ⟨cm,rfl,ah⟩;have ai:=ah.blk;dsimp only at ai;have a8:=ah.ext;have cn:=ah.pos;have co:=ah.size;revert ab G N h4 X hs ac;refine eE a8 ?_;intro ab G N h4 X hs ac;refine ⟨G,?_⟩;refine tC rfl rfl (HI.out _ _ _ _ Af) ?_;rintro _ cp ⟨cq,cr,⟨⟩,ar,a9⟩;revert ai ab G N h4 X hs;refine eY a9 ?_;intro ct ai ab G N h4 X hs;refine ⟨G,?_⟩;refine Tq rfl (xB [_,_,_,_,_,_]) (At rfl (eS [_,_,_,_,_,_] ai ?_));intro cu cv ba cw;revert ar ab N h4 X hs;refine eF ba ?_;intro ar ab N h4 X hs;refine Ak ?_;rotate_left;refine AE rfl (Bb Cs rfl) rfl ?_ aFh AD;rintro _ cx ⟨cy,rfl,aj⟩
    have ad:=aj.blk;dsimp only at ad;have bb:=aj.ext;have cz:=aj.pos;have c0:=aj.size;revert G N h4 X hs hv ac;refine eE bb ?_;intro G N h4 X hs hv ac;refine ⟨G,?_⟩;refine tC rfl rfl (HC.out _ _ _ _ Af) ?_;rintro _ c1 ⟨c2,c3,⟨⟩,ak,bc,c4⟩;revert ad G N h4 X hs ac;refine eY bc ?_;intro c5 ad G N h4 X hs ac;refine ⟨G,?_⟩;refine tC rfl rfl (HI.out _ _ _ _ Af) ?_;rintro _ c6 ⟨c7,c8,⟨⟩,au,bd⟩;revert ak ad G N h4 X hs;refine eY bd ?_;intro c9 ak ad G N h4 X hs;refine ⟨G,?_⟩;refine Tq rfl (xB [_,_,_,_,_,_]) (At rfl (eS [_,_,_,_,_,_] ad ?_));intro da db be dc;revert au ak N h4 X hs;refine eF be ?_;intro au ak N h4 X hs;refine Ak ?_;rotate_left
   all_goals exact BS (_,_,_,_,_) sC ⟨Af,VDs.wide Af (λb h=>⟨Ab,Ab,Ab⟩),iR Af (λb h=>⟨Ab,Ab,Ab⟩),Ab,Ab,Af,Af,Af,Af,Af⟩
 . clear h4 N hs X;rintro ⟨bq,bf,bw,bg,bx⟩ w1 ⟨Y,U,V,o1,o2,bh,aa,Z,hs,X⟩;simp only at Y U V o1 o2 bh;have hp:=hs.procs;have hz:=gI w1.heap.size;clear hs HI HC;refine eK ?_;refine AG (ι:=Nat×List PD×oA×Nat) (λx=>[(1,.pointer (some ⟨b1,0,none⟩)),(2,.pointer (some ⟨b8,0,none⟩)),(3,.pointer (some ⟨bq,0,none⟩)),(14,.slice pa g.procs.length pc),(15,.int .i64 g.procs.length),(16,.int .i64 x.1)])
    (λx w'=>OwnL EP w' w1.heap.size 116 (.slice x.2.2.1 x.2.1.length x.2.2.2) x.2.1/\x.2.1=g.procs.take x.1/\x.1<=g.procs.length/\Blk w' bq [.slice bf g.vars.length bw,.slice x.2.2.1 x.2.1.length x.2.2.2,.int .u8 g.main.kind,.int .i64 g.main.num,str g.main.name,.slice bg g.main.kids.length bx]/\VDs (λb=>b8<b/\b≠bq/\b<w1.heap.size) w' g.vars bf/\g.main.sits (λb=>b8<b/\b≠bq/\b<w1.heap.size) w' bg /\
     Blk w' b1 [.slice va g.vars.length vc,.slice pa g.procs.length pc,.int .u8 g.main.kind,.int .i64 g.main.num,str g.main.name,.slice ma g.main.kids.length mc]/\Blk w' b8 [.slice none 0 0,.slice none 0 0,.int .u8 0,.int .i64 0,str [],.slice none 0 0]/\PDs (· < w.heap.size) w' g.procs pa/\Ext w w'/\w1.heap.size<=w'.heap.size)
    (λx=>g.procs.length-x.1) (0,[],none,0) sB ⟨OwnL.nil,AN,gC _,Y,U,V,aa,Z,hp,X,hz⟩ ?_
   clear Y U V aa Z hp X hz;rintro ⟨j,xs,ra,rc⟩ w3 ⟨M,am,hj,Y,U,V,aa,Z,hp,X,hz⟩;simp only at M am hj Y;have bi:∀g',(gN ra xs.length rc).ownBlock=some g'->w1.heap.size<=g'/\g'<w3.heap.size:=λg' h=>⟨M.ge h,M.lt h⟩
   have d5:xs.length<=1000000:=by rw [am,ij];omega
   refine CW.sub (m:=[(1,.pointer (some ⟨b1,0,none⟩)),(2,.pointer (some ⟨b8,0,none⟩)),(3,.pointer (some ⟨bq,0,none⟩)),(14,.slice pa g.procs.length pc),(15,.int .i64 g.procs.length),(16,.int .i64 (j:Int))]) ?_ sB;by_cases ay:j<g.procs.length
   . obtain ⟨kb,ko,rfl,kS,hk⟩:=i8 hp Ab;obtain ⟨xa,xc,ya,yc,rx,vx,sx⟩:=hk j _ (gm ay);have d6:=HQ.out _ (gA ay);have HX:=gp (Jl g.procs[j].body Ab);have HC:=gp (If g.procs[j].params Ab);have az:xs++[g.procs[j]]=g.procs.take (j+1):=by rw [am];exact (gx ay).symm
     clear hk HQ am;generalize g.procs[j]=x at *;refine eK ?_;refine xA [_,_,_,_,_,_] ?_;intro d7 d8 bz;refine eI [_,_,_,_,_,_] bz ?_;intro bj bk b0 d9 ea;revert M Y U V Z X aa hp vx sx;refine eE b0 ?_;intro M Y U V Z X aa hp vx sx;refine cT (Aq (λwz=>Ext bj wz) 12 (.pure 0 (.pure 1 (.pure 2 (.pure 3 (.pure 4 (.pure 5 (.pure 7 (.pure 8 (.fork 6 (.fork 9 (.pure 10 (.fork 11 .tail .none)) .none) .none))))))))) mixed AT (Ae (Aa (Aa (Ae (Aa Ag))))) ?_);intro b2 av _;have O:(λwz=>Ext bj wz) b2:=av;simp only at O;have an:=bk;have ap:=M;have a0:=Y;have a1:=U;revert M Y U V Z X aa hp vx sx;refine eY av ?_;intro dd M Y U V Z X aa hp vx sx;refine ⟨O,?_⟩;refine eT ?_;refine Tq rfl (xL [_,_,_,_] (λwz hz=>(iW an hz))) (tC rfl rfl (HC.out _ _ _ _ Af) ?_);rintro _ de ⟨df,dg,⟨⟩,ae,bl,dh⟩;revert O M Y U V Z X aa hp sx;refine eY bl ?_;intro di O M Y U V Z X aa hp sx;refine ⟨O,?_⟩;refine tC rfl rfl (HX.out _ _ _ _ Af) ?_;rintro _ dk ⟨dl,dm,⟨⟩,ao,bm⟩;revert ae O M Y U V Z X aa hp;refine eY bm ?_;intro dn ae O M Y U V Z X aa hp;refine ⟨O,?_⟩;refine Tq rfl (xB [_,_,_,_,_,_]) (AE rfl (xS [_,_,_,_,_,_]) rfl ?_ aFh AD);rintro _ dp ⟨dq,rfl,al,dr⟩;have bn:=al.blk;have bo:=al.ext;have ds:=al.pos;have dt:=al.size;revert ao ae O M Y U V Z X aa hp;refine eE bo ?_;intro ao ae O M Y U V Z X aa hp;refine ⟨O,?_⟩;clear an ap a0 a1 O;refine At rfl (Ax (GE (sh:=EP) (z:=x) Ac Cs rfl rfl rfl rfl AT rfl rfl rfl Af (i7 Af) ⟨_,_,_,_,rfl,VDs.wide Af (λb h=>⟨Ab,λe=>by have:=bi _ e;omega⟩),iR Af (λb h=>⟨Ab,λe=>by have:=bi _ e;omega⟩),Af⟩ Ab Ab) rfl ?_ aFh);rintro _ du ⟨dv,br,rfl,aw,ax⟩;have dw:=ax.size;clear bn ao ae bk M;revert Y U V Z X aa hp;refine eF ax ?_;intro Y U V Z X aa hp;refine C1 Pf (eV [_] [_,_,_,_,_,_] Y ?_);intro dx dy bp dz
     clear Y;revert aw U V Z X aa hp;refine eF bp ?_;intro aw U V Z X aa hp;refine eK ?_;exact Aw (j+1,xs++[x],some ⟨_,0,none⟩,_) sB ⟨Af,az,by simp only;omega,Af,U,V,aa,Z,hp,X,Ab⟩ (by simp only;omega)
   . have b3:j=g.procs.length:=by omega
     subst b3;rw [gF] at am;refine eK ?_;refine eS [_,_,_,_,_,_] Z ?_;intro eb b4 b5 _;revert M U V X;refine eF b5 ?_;intro M U V X;refine kX b4 ?_;exact aL am U bh M V X (λb h=>by omega) (λb h=>by omega) Ab
abbrev Bv:=lB
structure AtV where
 s:Bv
 n:Bv
 ok:Bool
 deriving DecidableEq
def Cb (L:List AtV) (s n:Bv):Bool:=L.any λa=>decide (a.s=s)&&(decide (a.n=n)&&a.ok)
def C4 (L:List AtV) (s n:Bv):Nat:=L.countP λa=>decide (a.s=s)&&decide (a.n=n)
def DU (L:List AtV) (s:Bv):Nat:=L.countP λa=>decide (a.s=s)
def IW (L:List AtV) (s n:Bv) (ok:Bool):List AtV:=if Cb L s n then L else L++[⟨s,n,ok⟩]
def Cf (L:List AtV) (s:Bv):List (Bv×Int)->Int
 | []=>0
 | e::es=>(if Cb L s e.1 then e.2 else 0)+Cf L s es
section sort
variable {α:Type} (lt:α->α->Bool)
def Cu (x:α):List α->List α
 | []=>[x]
 | y::r=>if lt x y then y::Cu x r else x::y::r
def Jz (x:α):List α->List α
 | []=>[x]
 | y::r=>if lt y x then y::Jz x r else x::y::r
def Ft (l:List α):List α:=(l.foldl (λa x=>Cu lt x a) []).reverse
variable {lt}
def mem_insRev {x z:α}:∀ {l:List α},z∈Cu lt x l↔z=x\/z∈l
 | []=>by simp [Cu]
 | y::r=>by
  unfold Cu;split
  . simp only [ik,mem_insRev (l:=r)];exact or_left_comm
  . simp
def mem_insL {x z:α}:∀ {l:List α},z∈Jz lt x l↔z=x\/z∈l
 | []=>by simp [Jz]
 | y::r=>by
  unfold Jz;split
  . simp only [ik,mem_insL (l:=r)];exact or_left_comm
  . simp
structure Tot (lt:α->α->Bool):Prop where
 irr:∀x,lt x x=false
 tr:∀x y z,lt x y=true->lt y z=true->lt x z=true
 tot:∀x y,x≠y->lt x y=true\/lt y x=true
def IC (h:Tot lt) {x:α}:∀ {l:List α},l.Pairwise (λa b=>lt b a=true)->x∉l->(Cu lt x l).Pairwise (λa b=>lt b a=true)
 | [],_,_=>by simp [Cu]
 | y::r,O,M=>by
  obtain ⟨U,X⟩:=List.pairwise_cons.1 O;simp only [ik,not_or] at M;unfold Cu;split
  . rename_i N;refine List.pairwise_cons.2 ⟨λz G=>?_,IC h X M.2⟩;rcases mem_insRev.1 G with rfl|G
    . exact N
    . exact U z G
  . rename_i N;have V:lt y x=true:=(h.tot x y M.1).resolve_left N;refine List.pairwise_cons.2 ⟨λz G=>?_,O⟩;rcases ik.1 G with rfl|G
    . exact V
    . exact h.tr _ _ _ (U z G) V
def KP (h:Tot lt) {x:α}:∀ {l:List α},l.Pairwise (λa b=>lt a b=true)->x∉l->(Jz lt x l).Pairwise (λa b=>lt a b=true)
 | [],_,_=>by simp [Jz]
 | y::r,O,M=>by
  obtain ⟨U,X⟩:=List.pairwise_cons.1 O;simp only [ik,not_or] at M;unfold Jz;split
  . rename_i N;refine List.pairwise_cons.2 ⟨λz G=>?_,KP h X M.2⟩;rcases mem_insL.1 G with rfl|G
    . exact N
    . exact U z G
  . rename_i N;have V:lt x y=true:=(h.tot x y M.1).resolve_right N;refine List.pairwise_cons.2 ⟨λz G=>?_,O⟩;rcases ik.1 G with rfl|G
    . exact V
    . exact h.tr _ _ _ V (U z G)
def L9 {z:α}:∀(l a:List α),z∈l.foldl (λa x=>Cu lt x a) a↔z∈l\/z∈a
 | [],a=>by simp
 | x::l,a=>by
  rw [List.foldl_cons,L9 l,mem_insRev,ik];constructor
  . rintro (h|h|h)<;>simp [h]
  . rintro ((h|h)|h)<;>simp [h]
def KQ (h:Tot lt):∀(l a:List α),l.Nodup->(∀x∈l,x∉a)->a.Pairwise (λx y=>lt y x=true)->(l.foldl (λa x=>Cu lt x a) a).Pairwise (λx y=>lt y x=true)
 | [],_,_,_,G=>G
 | x::l,a,U,N,G=>by
  obtain ⟨V,X⟩:=List.nodup_cons.1 U;refine KQ h l _ X (λy O M=>?_) (IC h G (N x AN));rcases mem_insRev.1 M with rfl|M
  . exact V O
  . exact N y (by simp [O]) M
def UO {z:α} {l:List α}:z∈Ft lt l↔z∈l:=by
 unfold Ft;rw [List.mem_reverse,L9];simp
def OD (h:Tot lt) {l:List α} (G:l.Nodup):(Ft lt l).Pairwise (λa b=>lt a b=true):=by
 unfold Ft;rw [List.pairwise_reverse];exact KQ h l [] G AN List.Pairwise.nil
def Ed (h:Tot lt) {l:List α} (M:l.Pairwise (λa b=>lt a b=true)):l.Nodup:=
 M.imp λ{a b} G e=>by subst e;rw [h.irr] at G;cases G
def KR (h:Tot lt):∀ {l m:List α},l.Pairwise (λa b=>lt a b=true)->m.Pairwise (λa b=>lt a b=true)->(∀x,x∈l↔x∈m)->l=m
 | [],[],_,_,_=>rfl
 | [],y::m,_,_,G=>absurd ((G y).2 AN) AN
 | x::l,[],_,_,G=>absurd ((G x).1 AN) AN
 | x::l,y::m,X,Y,G=>by
  have O:=Ed h X;have U:=Ed h Y;obtain ⟨Z,h2⟩:=List.pairwise_cons.1 X;obtain ⟨h3,h4⟩:=List.pairwise_cons.1 Y;have V:x=y:=by
   rcases ik.1 ((G x).1 AN) with e|hx
   . exact e
   . rcases ik.1 ((G y).2 AN) with e|hy
     . exact e.symm
     . have:=h.tr _ _ _ (h3 x hx) (Z y hy);rw [h.irr] at this;cases this
  subst V;rw [KR h h2 h4 (λz=>?_)];constructor
  . intro N;rcases ik.1 ((G z).1 (by simp [N])) with rfl|M
    . exact absurd N (List.nodup_cons.1 O).1
    . exact M
  . intro N;rcases ik.1 ((G z).2 (by simp [N])) with rfl|M
    . exact absurd N (List.nodup_cons.1 U).1
    . exact M
end sort
def G0 (x y:Bv):Bool:=decide (x<y)
def nlt_tot:Tot G0 where
 irr:=λx=>by simp [G0,List.lt_irrefl]
 tr:=λx y z G M=>by
  simp only [G0,decide_eq_true_eq] at *;exact List.lt_trans G M
 tot:=λx y h=>by
  simp only [G0,decide_eq_true_eq];rcases Decidable.em (x<y) with G|G
  . exact gq G
  . rcases Decidable.em (y<x) with M|M
    . exact gt M
    . exact absurd (List.le_antisymm (List.not_lt.1 M) (List.not_lt.1 G)) h
def MX (L:List AtV) (es:List (Bv×Int)) (x y:Bv):Bool:=
 decide (Cf L y es<Cf L x es\/(Cf L x es=Cf L y es/\(DU L x<DU L y\/(DU L x=DU L y/\x<y))))
def OE (L:List AtV) (es:List (Bv×Int)):Tot (MX L es) where
 irr:=λx=>by
  have:=List.lt_irrefl x;simp [MX,this]
 tr:=λx y z G M=>by
  simp only [MX,decide_eq_true_eq] at *;have N:x<y->y<z->x<z:=λa b=>List.lt_trans a b
  rcases G with G|⟨G,V|⟨V,O⟩⟩<;>rcases M with M|⟨M,X|⟨X,U⟩⟩ <;>
   first
    | exact gq Ab
    | exact gt ⟨Ab,gq Ab⟩
    | exact gt ⟨Ab,gt ⟨Ab,N O U⟩⟩
 tot:=λx y h=>by
  simp only [MX,decide_eq_true_eq];have N:=nlt_tot.tot x y h;simp only [G0,decide_eq_true_eq] at N;rcases Int.lt_trichotomy (Cf L x es) (Cf L y es) with G|G|G
  . exact gt (gq G)
  . rcases Nat.lt_trichotomy (DU L x) (DU L y) with M|M|M
    . exact gq (gt ⟨G,gq M⟩)
    . rcases N with N|N
      . exact gq (gt ⟨G,gt ⟨M,N⟩⟩)
      . exact gt (gt ⟨G.symm,gt ⟨M.symm,N⟩⟩)
    . exact gt (gt ⟨G.symm,gq M⟩)
  . exact gq (gq G)
def Bj (L:List AtV):List Bv:=L.foldl (λo a=>if a.s∈o then o else o++[a.s]) []
def Ek (lt:Bv->Bv->Bool) (L:List AtV):List Bv:=L.foldl (λo a=>if a.s∈o then o else Jz lt a.s o) []
def Fe {lt:Bv->Bv->Bool} (h:Tot lt):∀(L:List AtV) (o:List Bv),o.Pairwise (λa b=>lt a b=true) ->
 (L.foldl (λo a=>if a.s∈o then o else Jz lt a.s o) o).Pairwise (λa b=>lt a b=true) /\ ∀z,z∈L.foldl (λo a=>if a.s∈o then o else Jz lt a.s o) o↔z∈o \/ ∃a∈L,a.s=z
 | [],o,M=>⟨M,λz=>by simp⟩
 | a::L,o,M=>by
  rw [List.foldl_cons];by_cases N:a.s∈o
  . rw [AQ N];obtain ⟨O,U⟩:=Fe h L o M;refine ⟨O,λz=>(U z).trans ?_⟩;constructor
    . rintro (h|⟨b,G,e⟩)
      . exact gq h
      . exact gt ⟨b,by simp [G],e⟩
    . rintro (h|⟨b,G,e⟩)
      . exact gq h
      . rcases ik.1 G with rfl|G
        . exact gq (e▸N)
        . exact gt ⟨b,G,e⟩
  . rw [AB N];obtain ⟨O,U⟩:=Fe h L _ (KP h M N);refine ⟨O,λz=>(U z).trans ?_⟩;rw [mem_insL];constructor
    . rintro ((h|h)|⟨b,G,e⟩)
      . exact gt ⟨a,AN,h.symm⟩
      . exact gq h
      . exact gt ⟨b,by simp [G],e⟩
    . rintro (h|⟨b,G,e⟩)
      . exact gq (gt h)
      . rcases ik.1 G with rfl|G
        . exact gq (gq e.symm)
        . exact gt ⟨b,G,e⟩
def Fu:∀(L:List AtV) (o:List Bv),o.Nodup->(L.foldl (λo a=>if a.s∈o then o else o++[a.s]) o).Nodup /\ ∀z,z∈L.foldl (λo a=>if a.s∈o then o else o++[a.s]) o↔z∈o \/ ∃a∈L,a.s=z
 | [],o,M=>⟨M,λz=>by simp⟩
 | a::L,o,M=>by
  rw [List.foldl_cons];by_cases N:a.s∈o
  . rw [AQ N];obtain ⟨O,U⟩:=Fu L o M;refine ⟨O,λz=>(U z).trans ?_⟩;constructor
    . rintro (h|⟨b,G,e⟩)
      . exact gq h
      . exact gt ⟨b,by simp [G],e⟩
    . rintro (h|⟨b,G,e⟩)
      . exact gq h
      . rcases ik.1 G with rfl|G
        . exact gq (e▸N)
        . exact gt ⟨b,G,e⟩
  . rw [AB N];have X:(o++[a.s]).Nodup:=by
     rw [List.nodup_append];exact ⟨M,AN,λx Y y V e=>N (by simp only [ia] at V;rw [<-V,<-e];exact Y)⟩
    obtain ⟨O,U⟩:=Fu L _ X;refine ⟨O,λz=>(U z).trans ?_⟩;rw [List.mem_append,ia];constructor
    . rintro ((h|h)|⟨b,G,e⟩)
      . exact gq h
      . exact gt ⟨a,AN,h.symm⟩
      . exact gt ⟨b,by simp [G],e⟩
    . rintro (h|⟨b,G,e⟩)
      . exact gq (gq h)
      . rcases ik.1 G with rfl|G
        . exact gq (gt e.symm)
        . exact gt ⟨b,G,e⟩
def Ny {lt:Bv->Bv->Bool} (h:Tot lt) (L:List AtV) {G:List Bv} (M:G.Nodup) (N:∀z,z∈G↔z∈Bj L):Ft lt G=Ek lt L:=by
 obtain ⟨O,U⟩:=Fe h L [] List.Pairwise.nil;obtain ⟨-,V⟩:=Fu L [] List.nodup_nil;refine KR h (OD h M) O (λz=>?_);rw [UO,N z];exact (V z).trans (U z).symm
end Bk
