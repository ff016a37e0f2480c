/- Texts that the proofs of ExercisePrints need. No condition. (Part 4 of 8.) -/
import Derived.Test.YtjkgmpljepnmiaaGreatDoorPEpr3
set_option linter.unusedSimpArgs false
set_option linter.unusedVariables false
set_option linter.defProp false
set_option maxRecDepth 100000
set_option maxHeartbeats 4000000
open Go.Proofs.Tryz
open List renaming length_append->aU,length_cons->aV,getElem_cons_succ->aW,length_nil->aX,getElem?_eq_getElem->aY,set_cons_zero->aZ,getElem_mem->bD,take_succ_eq_append_getElem->bE,take_length->bH,mem_cons->bR,getElem?_eq_none->bS,not_mem_nil->bX,replicate->cB,append_assoc->cF,length_take->cH,flatten_cons->cI,take_append_drop->cL,drop_eq_getElem_cons->cW,all_eq_true->cX,getD_eq_getElem?_getD->dC,getElem?_append_left->dD,take_succ_cons->dE,mem_singleton->dG
open Go.Lib renaming hid->bA,indexByte->dA
open Bool renaming and_eq_true->bB,false_eq_true->dH
open Or renaming inl->bC,inr->bF
open Go.Result renaming andThen->bG
open Nat renaming zero_le->bI,le_refl->bJ,blt->bM,lt_or_ge->bQ,le_trans->cD,le_of_ble_eq_true->cE,eq_of_beq_eq_true->cQ,ble->cY,beq->cZ
open Option.some renaming injEq->bK,inj->bO
open Go.Sem renaming run_bind->bL,run_pure->bW
open Go renaming Calls->bN
open Go.IntWalk renaming i64_in->bT
open Go.Region renaming ready->bU,binds->dB
open Go.Value.slice renaming injEq->bZ
open Go.DataW renaming trod->cG
open Array renaming getElem?_eq_none->cJ
open List.cons renaming injEq->cK
open Prod.mk renaming injEq->cO
open Go.Value renaming slice->cP,ownBlock->cV,bool->dF
open Go.Addr renaming add->cU
open Bk.Ext renaming refl->dI
open Bk.Nd renaming size->dL
open Bk.Blk renaming cell->dP,fr->dQ,ext->dV,row->eC
open Bk.Nd.sits renaming wide->dR
open Bk.Fr renaming refl->eG,of_ext->eJ
open Bk.Le renaming refl->eU
open Bk.CW renaming sub->fM
namespace Bk
open Go Go.RowKit Go.Proofs
attribute [local irreducible] Go.Calls
def Vc (t:lB):Jc binMap t=(IN t).map fun k=>.int .u8 k:=by
 unfold binMap IN;generalize f:[(8:Int),9,10,11,12,13,14,15,16,17,18,19,20,21,22,23]=L;clear f
 induction L with
 | nil=>rfl
 | cons k r E=>
  simp only [List.map_cons,Jc,List.find?_cons];by_cases h:BQ k=t
  . simp [h]
  . rw [AE (fun e=>h e.symm),E];simp [h]
def Ou (k:Int) (f:8<=k) (h1:k<=23):1<=B3 k/\B3 k<=8:=by
 have:k=8\/k=9\/k=10\/k=11\/k=12\/k=13\/k=14\/k=15\/k=16\/k=17\/k=18\/k=19\/k=20\/k=21\/k=22\/k=23:=by omega
 rcases this with rfl|rfl|rfl|rfl|rfl|rfl|rfl|rfl|rfl|rfl|rfl|rfl|rfl|rfl|rfl|rfl<;>decide
def YI (c:PC) (k:Nat) (IH : ∀j,j<=k->ExprsC c j):Yb c (k+1):=by
 intro lv σ w F hk b8 b9;have X:=eG (· = c.pb) w;have ca:=F.pbB;have hB:=F.B;have bj:=F.len;rw [show Bx c.ts c.n (k+1) lv σ=BW c.ts c.n k lv (Bj c.ts c.n k σ).1 (Bj c.ts c.n k σ).2 from by rw [Bx]];have hu:=((EL (ts:=c.ts) (n:=c.n) k).2.2.1 σ F.at_).1;have hf:4*mS c.ts σ+3<=k:=by omega
 have an:4*mS c.ts (Bj c.ts c.n k σ).2+1<=k:=by have:=BC hu;omega
 refine Af func276 ntmps276 rfl rfl ?_;refine cS (eA [_,_,_,_] ?_);intro b1 w2 f x6 p7 z8;revert F X;refine eE x6 ?_;intro F X;refine eK ?_;refine eQ rfl ((IH k (bJ _)).unary _ _ Ag hf) ?_;rintro _ cb ⟨a9,⟨a2,⟨⟨⟩,⟨ad,⟨ak,al⟩⟩⟩⟩⟩;have cc:=al.size;have f:=f.fr al Ab;clear F;have X:=X.fr al Ab;refine xA [_,_,_,_] ?_;intro am cd a3;refine eI [_,_,_,_] a3 ?_;intro a4 ao a5 ce cf;revert ad ak f X;refine eE a5 ?_;intro ad ak f X;refine cT (Ar ?_);refine AJ (ι:=Nat×Nd×oA×Nat×PS) (fun _=>[(0,.pointer (some ⟨c.pb,0,none⟩)),(1,.int .i64 lv),(4,.pointer (some ⟨b1,0,none⟩)),(5,.pointer (some ⟨am,0,none⟩))])
  (fun x w'=>PP c x.2.2.2.2 w'/\Blk w' am (x.2.1.cells x.2.2.1 x.2.2.2.1)/\x.2.1.sits (fun b=>w.heap.size<=b/\b≠b1/\b≠am) w' x.2.2.1/\Blk w' b1 [.int .u8 0,.int .i64 0,.string ⟨#[]⟩,.slice none 0 0]/\Fr (· = c.pb) w w'/\a4.heap.size<=w'.heap.size /\
   BW c.ts c.n k lv (Bj c.ts c.n k σ).1 (Bj c.ts c.n k σ).2=BW c.ts c.n x.1 lv x.2.1 x.2.2.2.2/\4*mS c.ts x.2.2.2.2+1<=x.1/\x.1<=k) (fun x=>x.1) (k,(Bj c.ts c.n k σ).1,a9,a2,(Bj c.ts c.n k σ).2) sB
  ⟨ak,ao,ad.wide (fun b h=>⟨Ab,Ab,Ab⟩),f,X,bJ _,rfl,an,bJ _⟩ ?_
 rintro ⟨j,x,xa,xc,σ'⟩ w1 ⟨F,f,E,L,X,hz,he,a6,a7⟩;simp only at F f E he a6 a7;rw [he];clear he hu hf an ao ad;obtain ⟨j,rfl⟩ : ∃i,j=i+1:=⟨j-1,Ab⟩;have hg:=Vc (Ap c.ts σ').text;cases hb:IN (Ap c.ts σ').text with
 | none=>
  rw [show BW c.ts c.n (j+1) lv x σ'=(x,σ') from by rw [BW];simp [hb]];rw [hb] at hg;simp only [Option.map_none] at hg;refine eK ?_;refine AC (fun U=>Ext w1 U) 12 (.pure 0 (.pure 1 (.pure 2 (.pure 3 (.pure 4 (.fork 5 (.pure 6 (.pure 7 (.pure 8 (.pure 9 (.pure 10 (.pure 11 .tail)))))) .none)))))) mixed Bl (Aa (Al (Aa (Al An)))) ?_;intro a8 ap _;have V:(fun U=>Ext w1 U) a8:=ap;simp only at V;have M:=F;have ae:=f;have af:=E;have ag:=L;revert F f E L X;refine eY ap ?_;intro cg F f E L X;refine ⟨V,?_⟩;refine eT ?_;refine Tq rfl (Ax Ac rfl rfl rfl (fun U hz=>dP (dV (PP.blk M) hz) rfl)) (Tq rfl Mv ?_);refine tC rfl rfl (Bg _ _ _ Ag) ?_;rintro _ ch ⟨⟨⟩,ba⟩;revert V F f E L X;refine eY ba ?_;intro ci V F f E L X;refine ⟨V,?_⟩;refine Tq rfl (AR Ac rfl rfl rfl rfl rfl rfl) (Tq rfl (MK Ac rfl rfl rfl rfl rfl (fun U hz=>MapIs.ext (PP.map M) hz) Ag) (Tq rfl Mv (Tq rfl Px (Tq rfl Px (Tq rfl Pa ?_)))));refine AF rfl ?_;refine eK ?_;refine eS [_,_,_,_] L ?_;intro cj aq ar bk;revert F f E X;refine eF ar ?_;intro F f E X;refine eK ?_;refine xC aq ?_;exact AX (dR E (fun b h=>h.1)) Ag X
 | some op=>
  rw [hb] at hg;simp only [Option.map_some] at hg;obtain ⟨bb,o1,o2,-⟩:=FP hb;obtain ⟨bc,ac⟩:=B2 F.at_ (bC bb);have hm:=Ca (ts:=c.ts) (σ:=σ') ⟨bc,ac⟩;have ck:=Ou op o1 o2;by_cases hl:B3 op<lv
  . rw [show BW c.ts c.n (j+1) lv x σ'=(x,σ') from by rw [BW];simp [hb,hl]]
    focus
     refine eK ?_;refine AC (fun U=>Ext w1 U) 12 (.pure 0 (.pure 1 (.pure 2 (.pure 3 (.pure 4 (.fork 5 (.pure 6 (.pure 7 (.pure 8 (.pure 9 (.pure 10 (.pure 11 .tail)))))) .none)))))) mixed Bl (Aa (Al (Aa (Al An)))) ?_;intro bd au _;have Y:(fun U=>Ext w1 U) bd:=au;simp only at Y;have M:=F;have ae:=f;have af:=E;have ag:=L;revert F f E L X;refine eY au ?_;intro cl F f E L X;refine ⟨Y,?_⟩;refine eT ?_;refine Tq rfl (Ax Ac rfl rfl rfl (fun U hz=>dP (dV (PP.blk M) hz) rfl)) (Tq rfl Mv ?_);refine tC rfl rfl (Bg _ _ _ Ag) ?_;rintro _ cm ⟨⟨⟩,be⟩;revert Y F f E L X;refine eY be ?_;intro cn Y F f E L X;refine ⟨Y,?_⟩;refine Tq rfl (AR Ac rfl rfl rfl rfl rfl rfl) (Tq rfl (IM Ac rfl rfl rfl rfl rfl (fun U hz=>MapIs.ext (PP.map M) hz) Ag) (Tq rfl Mv (Tq rfl Px (Tq rfl Px (Tq rfl Pa ?_)))));refine AF rfl ?_;refine eK ?_;refine cC rfl (DF _ _ Ab Ab) ?_;rintro _ co ⟨⟨⟩,rfl⟩;refine eK ?_;refine eS [_,_,_,_] L ?_;intro cp av aw bl;revert F f E X;refine eF aw ?_;intro F f E X;refine eK ?_;refine xC av ?_;rotate_left
    exact AX (dR E (fun b h=>h.1)) Ag X
  . rw [show BW c.ts c.n (j+1) lv x σ'=BW c.ts c.n j lv (.mk op 0 [] [x,(Bx c.ts c.n j (B3 op+1) (Ao σ')).1]) (Bx c.ts c.n j (B3 op+1) (Ao σ')).2 from by rw [BW];simp [hb,hl]];have bf:4*mS c.ts (Ao σ')+4<=j:=by omega
    have bg:=((EL (ts:=c.ts) (n:=c.n) j).1 (B3 op+1) (Ao σ') ac).1;have cq:=BC bg;refine eK ?_;refine AC (fun U=>Ext w1 U) 12 (.pure 0 (.pure 1 (.pure 2 (.pure 3 (.pure 4 (.fork 5 (.pure 6 (.pure 7 (.pure 8 (.pure 9 (.pure 10 (.pure 11 .tail)))))) .none)))))) mixed Bl (Aa (Al (Aa (Al An)))) ?_;intro bh ax _;have Z:(fun U=>Ext w1 U) bh:=ax;simp only at Z;have M:=F;have ae:=f;have af:=E;have ag:=L;revert F f E L X;refine eY ax ?_;intro cr F f E L X;refine ⟨Z,?_⟩;refine eT ?_;refine Tq rfl (Ax Ac rfl rfl rfl (fun U hz=>dP (dV (PP.blk M) hz) rfl)) (Tq rfl Mv ?_);refine tC rfl rfl (Bg _ _ _ Ag) ?_;rintro _ ct ⟨⟨⟩,bi⟩;revert Z F f E L X;refine eY bi ?_;intro cu Z F f E L X;refine ⟨Z,?_⟩;refine Tq rfl (AR Ac rfl rfl rfl rfl rfl rfl) (Tq rfl (IM Ac rfl rfl rfl rfl rfl (fun U hz=>MapIs.ext (PP.map M) hz) Ag) (Tq rfl Mv (Tq rfl Px (Tq rfl Px (Tq rfl Pa ?_)))));refine AF rfl ?_;refine eK ?_;refine cC rfl (DF _ _ Ab Ab) ?_;rintro _ cv ⟨⟨⟩,rfl⟩;refine A2 rfl rfl rfl (rfl) (C1 Mv (A2 rfl rfl rfl (rfl) (C1 V3 (C1 (By rfl rfl rfl) (cT (N0 (As (Ai (cS (C1 Mv (C1 Pn ?_)))))))))));refine C1 Pf (C1 (Pl (PP.blk F)) ?_);refine eK ?_;refine Ce Ac rfl rfl rfl rfl Ag ac ?_;rintro cw bm ah;have bn:=ah.size;clear F;revert f E L X;refine eF ah ?_;intro f E L X;refine eK ?_;refine cC rfl (DF _ _ Ab Ab) ?_;rintro _ bo ⟨⟨⟩,rfl⟩;refine C1 V7 (eQ rfl ((IH j Ab).expr _ _ _ Ag bf Ab Ab) ?_);rintro _ bp ⟨bq,⟨br,⟨⟨⟩,⟨N,⟨O,ai⟩⟩⟩⟩⟩;have bs:=ai.size;revert f E L X;refine eF ai ?_;intro f E L X;refine xA [_,_,_,_] ?_;intro bt bu ay;refine eI [_,_,_,_] ay ?_;intro bv aa az bw bx;revert N O f E L X;refine eE az ?_;intro N O f E L X;refine eK ?_;refine Au (xS [_,_,_,_,_,_,_,_]) rfl ?_ aFh;rintro _ bz ⟨b0,rfl,ab,b2⟩;have aj:=ab.blk;have a0:=ab.ext;have b3:=ab.pos;have b4:=ab.size;revert aa N O f E L X;refine eE a0 ?_;intro aa N O f E L X;refine C1 (xB [_,_,_,_]) (eS [_,_,_,_] f ?_);intro b5 b6 a1 b7;revert aj aa N O E L X;refine eF a1 ?_;intro aj aa N O E L X;refine Ah (Ae ?_)
    refine Aw (j,.mk op 0 [] [x,(Bx c.ts c.n j (B3 op+1) (Ao σ')).1],some ⟨_,0,none⟩,2,(Bx c.ts c.n j (B3 op+1) (Ao σ')).2) sB ⟨Ag,Ag,J6 Ag ⟨Ab,Ab,Ab⟩ E (fun b h=>h) Ag (fun b h=>⟨Ab,Ab,Ab⟩),Ag,X,Ab,rfl,by simp only;omega,by simp only;omega⟩ Bd
def Ef (c:PC) (k:Nat):ExprsC c k:=by
 induction k using Nat.strongRecOn with
 | _ k E=>
  cases k with
  | zero=>exact ⟨fun _ _ _ _ h=>by omega,fun _ _ _ h=>by omega,fun _ _ _ h=>by omega,fun _ _ _ h=>by omega⟩
  | succ k=>
   have f : ∀j,j<=k->ExprsC c j:=fun j F=>E j Ab
   exact ⟨YI c k f,Xa c k f,TF c k f,W9 c k f⟩
def Eu (s:lB):Bool:=match s with
 | []=>false
 | c::_=>Cw c
section
variable (ts:List Tok) (n:Int)
end
section
variable {ts:List Tok} {n:Int}
end
section
variable {ts:List Tok} {n:Int}
def BG (ts:List Tok):Prop:= ∀t∈ts,t.kind=2↔Eu t.text=true
end
section
variable (ts:List Tok) (n:Int)
end
section
variable {ts:List Tok} {n:Int}
def LV {σ:PS} (h:σ.at_<=ts.length):Le ts σ (DB ts n σ).2:=AM h
def Ov (k:Nat) : ∀acc σ,σ.at_<=ts.length->Le ts σ (Cx ts n k acc σ).2:=by
 induction k with
 | zero=>intro acc σ h;rw [Cx];exact eU h
 | succ k E=>
  intro acc σ h;rw [Cx];split
  . rename_i F;have h1:=AB (AN h F Az);split
    . have f:=h1.trans (BZ (off:=(Ap ts (Ao σ)).pos) (e:=5) h1.wf);exact (f.trans (LV f.wf)).trans (E _ _ (LV f.wf).wf)
    . exact (h1.trans (LV h1.wf)).trans (E _ _ (LV h1.wf).wf)
  . exact eU h
end
section
variable {ts:List Tok} {n:Int}
abbrev In (ts:List Tok) (σ:PS):Prop:=σ.err=0/\σ.at_<ts.length
def Dx {k:Nat} {lv:Int} {σ:PS} (h:σ.at_<=ts.length):Le ts σ (Bx ts n k lv σ).2:=((EL k).1 lv σ h).1
def FR {k:Nat} {σ:PS} (h:σ.at_<=ts.length):Le ts σ (BF ts n k σ).2:=((EL k).2.2.2.2 σ h).1
def PV {k:Nat} {kind:Int} {σ:PS} (E:In ts σ):Le ts σ (Fo ts n k kind σ).2:=by
 unfold Fo;have h1:=AB E;have f:=h1.trans (FR (n:=n) (k:=k) h1.wf);have h:=f.trans (Aq (n:=n) (t:=[44]) f.wf Az);exact h.trans (AM h.wf)
def Lk {k:Nat} {kind:Int} {σ:PS} (f:In ts σ):Le ts σ (F4 ts n k kind σ).2:=by
 unfold F4;have h1:=AB f;exact h1.trans (FR (n:=n) (k:=k) h1.wf)
def Sr {k:Nat} {kind:Int} {σ:PS} (F:In ts σ):Le ts σ (Fq ts n k kind σ).2:=by
 unfold Fq;have h1:=AB F;have E:=h1.trans (AM (n:=n) h1.wf);have f:=E.trans (Aq (n:=n) (t:=[40]) E.wf Az);simp only;split
 . rename_i L;exact f.trans (AB (AN f.wf L Az))
 . have h:=f.trans (LV (n:=n) f.wf);exact (h.trans (Ov (n:=n) k _ _ h.wf)).trans (Aq (Ov (n:=n) k _ _ h.wf).wf Az)
def LX {t:lB} (h : ¬CE t=0):t≠[]:=by rintro rfl;exact h Az
def TG {k:Nat} {σ:PS} (h:σ.at_<=ts.length):Le ts σ (Dt ts n k σ).2:=by
 unfold Dt;have h1:=FR (n:=n) (k:=k) h;simp only;split
 . rename_i E;have f:=h1.trans (AB (AN h1.wf E Az));exact f.trans (FR f.wf)
 . split
   . exact h1.trans (Gz h1.wf)
   . rename_i E;have f:=h1.trans (AB (B2 h1.wf (bC (LX E))));exact f.trans (Dx f.wf)
def DR (k:Nat):(∀ σ,σ.at_<=ts.length->Le ts σ (Bt ts n k σ).2)/\(∀kind F E σ,In ts σ->F≠[]->E≠[]->Le ts σ (BK ts n k kind F E σ).2)/\(∀ σ,In ts σ->Le ts σ (Du ts n k σ).2) /\
 (∀ σ,σ.at_<=ts.length->Le ts σ (Ct ts n k σ).2)/\(∀acc σ,σ.at_<=ts.length->Le ts σ (CA ts n k acc σ).2):=by
 induction k with
 | zero=>
  refine ⟨fun σ h=>?_,fun kind F E σ h _ _=>?_,fun σ h=>?_,fun σ h=>?_,fun acc σ h=>?_⟩
  . rw [Bt];exact eU h
  . rw [BK];exact eU (Nat.le_of_lt h.2)
  . rw [Du];exact eU (Nat.le_of_lt h.2)
  . rw [Ct];exact eU h
  . rw [CA];exact eU h
 | succ k ih=>
  obtain ⟨iS,iB,iL,Y,iT⟩:=ih;refine ⟨fun σ h=>?_,fun kind F E σ Z O N=>?_,fun σ Z=>?_,fun σ h=>?_,fun acc σ h=>?_⟩
  . rw [Bt];have f : ∀t:lB,t≠[]->(Ap ts σ).text=t->In ts σ:=fun t ht e=>B2 h (bC (by rw [e];exact ht))
    by_cases c:(Ap ts σ).text=[112,117,115,104]
    . rw [AU c];exact PV (f _ Az c)
    rw [AE c];clear c;by_cases c:(Ap ts σ).text=[112,111,112]
    . rw [AU c];exact PV (f _ Az c)
    rw [AE c];clear c;by_cases c:(Ap ts σ).text=[114,101,97,100]
    . rw [AU c];exact Lk (f _ Az c)
    rw [AE c];clear c;by_cases c:(Ap ts σ).text=[117,110,114,101,97,100]
    . rw [AU c];exact Lk (f _ Az c)
    rw [AE c];clear c;by_cases c:(Ap ts σ).text=[119,114,105,116,101]
    . rw [AU c];exact Lk (f _ Az c)
    rw [AE c];clear c;by_cases c:(Ap ts σ).text=[117,110,119,114,105,116,101]
    . rw [AU c];exact Lk (f _ Az c)
    rw [AE c];clear c;by_cases c:(Ap ts σ).text=[99,97,108,108]
    . rw [AU c];exact Sr (f _ Az c)
    rw [AE c];clear c;by_cases c:(Ap ts σ).text=[117,110,99,97,108,108]
    . rw [AU c];exact Sr (f _ Az c)
    rw [AE c];clear c;by_cases c:(Ap ts σ).text=[105,102]
    . rw [AU c];exact iB _ _ _ _ (f _ Az c) Az Az
    rw [AE c];clear c;by_cases c:(Ap ts σ).text=[102,114,111,109]
    . rw [AU c];exact iB _ _ _ _ (f _ Az c) Az Az
    rw [AE c];clear c;by_cases c:(Ap ts σ).text=[108,111,99,97,108]
    . rw [AU c];exact iL _ (f _ Az c)
    rw [AE c];clear c;exact TG h
  . rw [BK];have h1:=AB Z;have L:=h1.trans (Dx (n:=n) (k:=k) (lv:=1) h1.wf);have M:=L.trans (Y _ L.wf);have U:=M.trans (Aq (n:=n) (t:=F) M.wf O);have V:=U.trans (Y _ U.wf);have X:=V.trans (Aq (n:=n) (t:=E) V.wf N);exact X.trans (Dx X.wf)
  . rw [Du];have h1:=AB Z;split
    . rename_i hh;have L:=h1.trans (AB (AN h1.wf hh Az));have M:=L.trans (AM (n:=n) L.wf);exact M.trans (Y _ M.wf)
    . have L:=h1.trans (AM (n:=n) h1.wf);have M:=L.trans (Aq (n:=n) (t:=[61]) L.wf Az);have U:=M.trans (Dx (n:=n) (k:=k) (lv:=1) M.wf);have V:=U.trans (Y _ U.wf);have X:=V.trans (Aq (n:=n) (t:=[100,101,108,111,99,97,108]) V.wf Az);exact X.trans (Dx X.wf)
  . rw [Ct];have h1:=Aq (n:=n) (t:=[123]) h Az;exact h1.trans (iT [] _ h1.wf)
  . rw [CA];split
    . exact eU h
    . split
      . rename_i hh;exact AB (AN h hh Az)
      . have h1:=iS σ h;have L:=h1.trans (Aq (n:=n) (t:=[59]) h1.wf Az);exact L.trans (iT _ _ L.wf)
end
def KO (c:PC) (k:Nat) (kind:Int) (σ:PS) (w:wD) (Y:PP c σ w) (hi:In c.ts σ) (hk:4*mS c.ts σ<=k) :
 Calls prog 257 #[.pointer (some ⟨c.pb,0,none⟩),.int .u8 kind] w (TreeR c w (Fo c.ts c.n k kind σ)):=by
 have X:=eG (· = c.pb) w;have az:=Y.pbB;have hB:=Y.B;have ax:=Y.len;have h2:=hi.2;have hm:=Ca hi;have hf:4*mS c.ts (Ao σ)+1<=k:=by omega
 refine Af func257 ntmps257 rfl rfl ?_
 focus
  refine cS (eA [_,_,_,_] ?_);intro b1 w2 L x6 p7 z8;revert Y X;refine eE x6 ?_;intro Y X;refine cN (C1 Mv (C1 Pn (C1 Pf (C1 (Pl (PP.blk Y)) ?_))));refine eK ?_;refine Ce Ac rfl rfl rfl rfl Ag h2 ?_;rintro w9 a0 Z;have a1:=Z.size;have L:=L.fr Z Ab;clear Y;have X:=X.fr Z Ab;refine eK ?_;refine eQ rfl ((Ef c k).place _ _ Ag hf) ?_;rintro _ a2 ⟨a3,⟨a4,⟨⟨⟩,⟨E,⟨ad,ae⟩⟩⟩⟩⟩;have a5:=ae.size;revert L X;refine eF ae ?_;intro L X;refine xA [_,_,_,_] ?_;intro a6 a7 ak;refine eI [_,_,_,_] ak ?_;intro a8 F al a9 ba;revert E ad L X;refine eE al ?_;intro E ad L X;refine eK ?_;refine cC rfl (BU _ _ _ _ Ag Az) ?_;rintro _ af ⟨⟨⟩,⟨M,ag⟩⟩;revert F E;refine eZ ag ?_;intro z31 F E;revert L X;refine eF ag ?_;intro L X;refine eK ?_;refine AC (fun wz=>Fr (· = c.pb) af wz) 5 (.pure 0 (.pure 1 (.pure 3 (.fork 2 (.fork 4 .tail .none) (.fork 4 (.fork 2 .tail .none) .none))))) mixed Bl (Aa An) ?_;intro am aa _;have f:(fun wz=>Fr (· = c.pb) af wz) am:=eJ aa;simp only at f;have an:=M;have ab:=F;have ao:=E;have ay:=L;have bb:=aa.size;revert M F E L X;refine eE aa ?_;intro M F E L X;refine ⟨f,?_⟩;refine Tq rfl Mv (Tq rfl Mv (Tq rfl (xL [_,_,_,_] (fun wz hz=>(dQ ab hz Ab))) ?_));refine A1 rfl (Bb Bl rfl (EY _ _ _ Ag) (fun _ _ h=>⟨_,h.1⟩)) rfl ?_ aFh ?kr;rintro _ bc ⟨⟨⟩,⟨N,ac⟩⟩;have bd:=ac.size;have f:=f.fr ac Ab;revert F E L X;refine eF ac ?_;intro F E L X;refine ⟨f,?_⟩;refine A1 rfl (xS [_,_,_,_]) rfl ?_ aFh A7;rintro _ be ⟨bf,rfl,O,bg⟩;have ah:=O.blk;have ap:=O.ext;have bh:=O.pos;have bi:=O.size;revert N f F E L X;refine eE ap ?_;intro N f F E L X;refine ⟨f,?_⟩;refine AF rfl (C1 (xB [_,_,_,_]) (eS [_,_,_,_] L ?_));intro bj aq ar z51;revert ah N F E X;refine eF ar ?_;intro ah N F E X;refine eK ?_;refine xC aq ?_;rotate_left;refine A1 rfl (xS [_,_,_,_]) rfl ?_ aFh A7;rintro _ bk ⟨bl,rfl,U,bm⟩;have V:=U.blk;have au:=U.ext;have bn:=U.pos;have bo:=U.size;revert f M F E L X
  refine eE au ?_;intro f M F E L X;refine ⟨f,?_⟩;refine tC rfl rfl (EY _ _ _ Ag) ?_;rintro _ bp ⟨⟨⟩,⟨ai,aj⟩⟩;revert V f;refine eZ aj ?_;intro bq V f;revert F E L X;refine eF aj ?_;intro F E L X;refine ⟨f,?_⟩;refine AF rfl (C1 (xB [_,_,_,_]) (eS [_,_,_,_] L ?_));intro br av aw bs;revert ai V F E X;refine eF aw ?_;intro ai V F E X;refine eK ?_;refine xC av ?_;rotate_left
 all_goals exact AX (J4 Ag Ab Ag (fun b h=>by omega)) Ag X
def Ha (c:PC) (k:Nat) (kind:Int) (σ:PS) (w:wD) (L:PP c σ w) (hi:In c.ts σ) (hk:4*mS c.ts σ<=k) :
 Calls prog 258 #[.pointer (some ⟨c.pb,0,none⟩),.int .u8 kind] w (TreeR c w (F4 c.ts c.n k kind σ)):=by
 have X:=eG (· = c.pb) w;have ab:=L.pbB;have hB:=L.B;have aa:=L.len;have h2:=hi.2;have hm:=Ca hi;have hf:4*mS c.ts (Ao σ)+1<=k:=by omega
 refine Af func258 ntmps258 rfl rfl ?_;refine cS (eA [_,_,_,_] ?_);intro b1 w2 M x6 p7 z8;revert L X;refine eE x6 ?_;intro L X;refine cN (C1 Mv (C1 Pn (C1 Pf (C1 (Pl (PP.blk L)) ?_))));refine eK ?_;refine Ce Ac rfl rfl rfl rfl Ag h2 ?_;rintro w9 ac N;have ad:=N.size;have M:=M.fr N Ab;clear L;have X:=X.fr N Ab;refine eK ?_;refine eQ rfl ((Ef c k).place _ _ Ag hf) ?_;rintro _ ae ⟨af,⟨ag,⟨⟨⟩,⟨f,⟨E,O⟩⟩⟩⟩⟩;have ah:=O.size;revert M X;refine eF O ?_;intro M X;refine Au (xS [_,_,_,_]) rfl ?_ aFh;rintro _ ai ⟨aj,rfl,F,ak⟩;have U:=F.blk;have V:=F.ext;have al:=F.pos;have am:=F.size;revert f E M X;refine eE V ?_;intro f E M X;refine C1 (xB [_,_,_,_]) (eS [_,_,_,_] M ?_);intro an Y Z z31;revert U f E X;refine eF Z ?_;intro U f E X;refine eK ?_;refine xC Y ?_;all_goals exact AX (J4 Ag Ab Ag (fun b h=>by omega)) Ag X
def Vd (c:PC) (k:Nat) (σ:PS) (w:wD) (hP:PP c σ w) (hk:4*mS c.ts σ+1<=k) :
 Calls prog 262 #[.pointer (some ⟨c.pb,0,none⟩)] w (TreeR c w (Dt c.ts c.n k σ)):=by
 have X:=eG (· = c.pb) w;have hn:=hP.pbB;have hB:=hP.B;have dl:=hP.len;have hl:=FR (n:=c.n) (k:=k) hP.at_;have hm:=BC hl;have bz:=hl.wf;unfold Dt;generalize hp:BF c.ts c.n k σ=p at *;have a4 : ∀ {w':wD},PP c σ w'->Calls prog 274 #[.pointer (some ⟨c.pb,0,none⟩)] w' (TreeR c w' p):=fun h=>hp▸(Ef c k).place _ _ h hk
 clear hl;by_cases a5:(Ap c.ts p.2).text=[60,61,62]
 . have hh:B7 c.ts p.2 [60,61,62]=true:=by simp [B7,a5]
   simp only [hh,if_true];have a8:=AN bz hh Az;have c6:=Ca a8;have h2:=a8.2;have hf:4*mS c.ts (Ao p.2)+1<=k:=by omega
   refine Af func262 ntmps262 rfl rfl ?_;refine cS (eA [_,_,_,_] ?_);intro b1 w2 h5 x6 p7 z8;revert hP X;refine eE x6 ?_;intro hP X;refine eK ?_;refine eQ rfl (a4 Ag) ?_;rintro _ ho ⟨a9,⟨hq,⟨⟨⟩,⟨ac,⟨ba,bw⟩⟩⟩⟩⟩;have hr:=bw.size;have h5:=h5.fr bw Ab;clear hP;have X:=X.fr bw Ab;refine xA [_,_,_,_] ?_;intro hs ht c7;refine eI [_,_,_,_] c7 ?_;intro hv ae c8 hw hx;revert ac ba h5 X;refine eE c8 ?_;intro ac ba h5 X;refine eK ?_;refine cC rfl (Bg _ _ _ Ag) ?_;rintro _ hy ⟨⟨⟩,c9⟩;revert ae ac ba h5 X;refine eY c9 ?_;intro hz ae ac ba h5 X;refine C1 (AR Ac rfl rfl rfl rfl rfl rfl) (cT (Ar (cS (C1 V8 (C1 Pa (cT (Fa rfl (fun M=>absurd (a5.symm.trans M) Az) (cS (C1 V8 (C1 Pa (cT ?_)))))))))));refine Fa rfl (fun M=>absurd (a5.symm.trans M) Az) (cS (C1 V8 (C1 Pa (cT (Fa rfl (fun M=>absurd (a5.symm.trans M) Az) (cS (C1 V8 (C1 Pa (cT (Fa rfl (fun M=>absurd (a5.symm.trans M) Az) (cS ?_)))))))))));refine C1 V8 (C1 Pa (cT (OX (cS (C1 Mv (C1 Pn (C1 Pf (C1 (Pl (PP.blk ba)) ?_))))))));refine eK ?_;refine Ce Ac rfl rfl rfl rfl Ag h2 ?_;rintro h0 h3 b0;revert ae ac;refine eZ b0 ?_;intro h4 ae ac;revert h5 X;refine eF b0 ?_;intro h5 X;refine eK ?_;refine eQ rfl ((Ef c k).place _ _ Ag hf) ?_;rintro _ h6 ⟨a31,⟨h7,⟨⟨⟩,⟨a6,⟨a7,b2⟩⟩⟩⟩⟩;have z37:=b2.size;revert ae ac h5 X;refine eF b2 ?_;intro ae ac h5 X;refine xA [_,_,_,_] ?_;intro h8 h9 da;refine eI [_,_,_,_] da ?_;intro ia bg db ib ic;revert a6 a7 ae ac h5 X;refine eE db ?_;intro a6 a7 ae ac h5 X;refine eK ?_;refine Au (xS [_,_,_,_,_,_,_,_]) rfl ?_ aFh;rintro _ id ⟨ie,rfl,bh,ig⟩;have b3:=bh.blk;have dc:=bh.ext;have ih:=bh.pos;have z53:=bh.size;revert bg a6 a7 ae ac h5 X;refine eE dc ?_;intro bg a6 a7 ae ac h5 X;refine C1 (xB [_,_,_,_]) (eS [_,_,_,_] h5 ?_);intro ii dd de ij;revert b3 bg a6 a7 ae ac X;refine eF de ?_;intro b3 bg a6 a7 ae ac X;refine eK ?_;refine xC dd ?_
   all_goals exact AX (J6 Ag Ab Ag (fun b h=>by omega) Ag (fun b h=>by omega)) Ag X
 . have hh:B7 c.ts p.2 [60,61,62]=false:=by simp [B7,a5]
   simp only [hh,dH,if_false];by_cases hu:CE (Ap c.ts p.2).text=0
   . rw [AU hu];have n1:(Ap c.ts p.2).text≠[43,61]:=fun e=>by rw [e] at hu;exact absurd hu Az
     have n2:(Ap c.ts p.2).text≠[45,61]:=fun e=>by rw [e] at hu;exact absurd hu Az
     have n3:(Ap c.ts p.2).text≠[94,61]:=fun e=>by rw [e] at hu;exact absurd hu Az
     have n4:(Ap c.ts p.2).text≠[58,61]:=fun e=>by rw [e] at hu;exact absurd hu Az
     refine Af func262 ntmps262 rfl rfl ?_;refine cS (eA [_,_,_,_] ?_);intro ik il ao df im io;revert hP X;refine eE df ?_;intro hP X;refine eK ?_;refine eQ rfl (a4 Ag) ?_;rintro _ dm ⟨ip,⟨dn,⟨⟨⟩,⟨ad,⟨av,bb⟩⟩⟩⟩⟩;have dp:=bb.size;have ao:=ao.fr bb Ab;clear hP;have X:=X.fr bb Ab;refine xA [_,_,_,_] ?_;intro dq dr b4;refine eI [_,_,_,_] b4 ?_;intro ds af b5 dt du;revert ad av ao X;refine eE b5 ?_;intro ad av ao X;refine eK ?_;refine cC rfl (Bg _ _ _ Ag) ?_;rintro _ dv ⟨⟨⟩,b6⟩;revert af ad av ao X;refine eY b6 ?_;intro dw af ad av ao X;refine C1 (AR Ac rfl rfl rfl rfl rfl rfl) ?_;refine eK ?_;refine cC rfl (D5 _ _ _ Ag) ?_;rintro _ dx ⟨⟨⟩,⟨bi,bj⟩⟩;revert af ad;refine eZ bj ?_;intro dy af ad;revert ao X;refine eF bj ?_;intro ao X;refine cN (C1 (xB [_,_,_,_]) (eS [_,_,_,_] ao ?_));intro dz b7 b8 d0;revert bi af ad X;refine eF b8 ?_;intro bi af ad X;refine eK ?_;refine xC b7 ?_;all_goals exact AX CX Ag X
   . rw [AE hu];have a8:=B2 bz (bC (LX hu));have c6:=Ca a8;have h2:=a8.2;have hf:4*mS c.ts (Ao p.2)+4<=k:=by omega
     have bx:(Ap c.ts p.2).text=[43,61]\/(Ap c.ts p.2).text=[45,61]\/(Ap c.ts p.2).text=[94,61]\/(Ap c.ts p.2).text=[58,61]:=by
      unfold CE at hu;by_cases e1:(Ap c.ts p.2).text=[43,61]
      . exact bC e1
      by_cases e2:(Ap c.ts p.2).text=[45,61]
      . exact bF (bC e2)
      by_cases e3:(Ap c.ts p.2).text=[94,61]
      . exact bF (bF (bC e3))
      by_cases e4:(Ap c.ts p.2).text=[58,61]
      . exact bF (bF (bF e4))
      . simp [e1,e2,e3,e4] at hu
     rcases bx with e|e|e|e
     . rw [show CE (Ap c.ts p.2).text=40 from by rw [e];decide];refine Af func262 ntmps262 rfl rfl ?_;refine cS (eA [_,_,_,_] ?_);intro iq ir Y dg it iu;revert hP X;refine eE dg ?_;intro hP X;refine eK ?_;refine eQ rfl (a4 Ag) ?_;rintro _ d1 ⟨iv,⟨d2,⟨⟨⟩,⟨f,⟨ap,bc⟩⟩⟩⟩⟩;have d3:=bc.size;have Y:=Y.fr bc Ab;clear hP;have X:=X.fr bc Ab;refine xA [_,_,_,_] ?_;intro d4 d5 b9;refine eI [_,_,_,_] b9 ?_;intro d6 N ca d7 d8;revert f ap Y X;refine eE ca ?_;intro f ap Y X;refine eK ?_;refine cC rfl (Bg _ _ _ Ag) ?_;rintro _ d9 ⟨⟨⟩,cb⟩;revert N f ap Y X;refine eY cb ?_;intro ea N f ap Y X;refine C1 (AR Ac rfl rfl rfl rfl rfl rfl) (cT (Ar (cS (C1 V8 (C1 Pa (cT (OX (Ad (C1 Pa (Ah (Ae ?_)))))))))));refine Ai (cS (C1 Mv (C1 Pn (C1 Pf (C1 (Pl (PP.blk ap)) ?_)))));refine eK ?_;refine Ce Ac rfl rfl rfl rfl Ag h2 ?_;rintro eb ec bk;revert N f;refine eZ bk ?_;intro ed N f;revert Y X;refine eF bk ?_;intro Y X;refine eK ?_;refine eQ rfl ((Ef c k).expr _ _ _ Ag hf Az Az) ?_;rintro _ ee ⟨ef,⟨eg,⟨⟨⟩,⟨ag,⟨ah,bl⟩⟩⟩⟩⟩;have eh:=bl.size;revert N f Y X;refine eF bl ?_;intro N f Y X;refine xA [_,_,_,_] ?_;intro ei ej cc;refine eI [_,_,_,_] cc ?_;intro ek aw cd el em;revert ag ah N f Y X;refine eE cd ?_;intro ag ah N f Y X;refine eK ?_;refine Au (xS [_,_,_,_,_,_,_,_]) rfl ?_ aFh;rintro _ en ⟨eo,rfl,ax,ep⟩;have bm:=ax.blk;have ce:=ax.ext;have eq:=ax.pos;have er:=ax.size;revert aw ag ah N f Y X;refine eE ce ?_;intro aw ag ah N f Y X;refine C1 (xB [_,_,_,_]) (eS [_,_,_,_] Y ?_);intro es cf cg et;revert bm aw ag ah N f X;refine eF cg ?_;intro bm aw ag ah N f X;refine eK ?_;refine xC cf ?_
       all_goals exact AX (J6 Ag Ab Ag (fun b h=>by omega) Ag (fun b h=>by omega)) Ag X
     . rw [show CE (Ap c.ts p.2).text=41 from by rw [e];decide];refine Af func262 ntmps262 rfl rfl ?_;refine cS (eA [_,_,_,_] ?_);intro iw ix Z dh iy iz;revert hP X;refine eE dh ?_;intro hP X;refine eK ?_;refine eQ rfl (a4 Ag) ?_;rintro _ eu ⟨i0,⟨ew,⟨⟨⟩,⟨E,⟨aq,bd⟩⟩⟩⟩⟩;have ex:=bd.size;have Z:=Z.fr bd Ab;clear hP;have X:=X.fr bd Ab;refine xA [_,_,_,_] ?_;intro ey ez ch;refine eI [_,_,_,_] ch ?_;intro e0 O ci e5 e6;revert E aq Z X;refine eE ci ?_;intro E aq Z X;refine eK ?_;refine cC rfl (Bg _ _ _ Ag) ?_;rintro _ e7 ⟨⟨⟩,cj⟩;revert O E aq Z X;refine eY cj ?_;intro e8 O E aq Z X;refine C1 (AR Ac rfl rfl rfl rfl rfl rfl) (cT (Ar (cS (C1 V8 (C1 Pa (cT (Fa rfl (fun M=>absurd (e.symm.trans M) Az) (cS (C1 V8 (C1 Pa (cT ?_)))))))))));refine OX (Ad (C1 Pa (Ah (Ae (Ai (cS (C1 Mv (C1 Pn (C1 Pf (C1 (Pl (PP.blk aq)) ?_))))))))));refine eK ?_;refine Ce Ac rfl rfl rfl rfl Ag h2 ?_;rintro e9 fa bn;revert O E;refine eZ bn ?_;intro fc O E;revert Z X;refine eF bn ?_;intro Z X;refine eK ?_;refine eQ rfl ((Ef c k).expr _ _ _ Ag hf Az Az) ?_;rintro _ fd ⟨fe,⟨ff,⟨⟨⟩,⟨ai,⟨aj,bo⟩⟩⟩⟩⟩;have fg:=bo.size;revert O E Z X;refine eF bo ?_;intro O E Z X;refine xA [_,_,_,_] ?_;intro fh fi ck;refine eI [_,_,_,_] ck ?_;intro fj ay cl fk fl;revert ai aj O E Z X;refine eE cl ?_;intro ai aj O E Z X;refine eK ?_;refine Au (xS [_,_,_,_,_,_,_,_]) rfl ?_ aFh;rintro _ fm ⟨fo,rfl,az,fp⟩;have bp:=az.blk;have cm:=az.ext;have fq:=az.pos;have fs:=az.size;revert ay ai aj O E Z X;refine eE cm ?_;intro ay ai aj O E Z X;refine C1 (xB [_,_,_,_]) (eS [_,_,_,_] Z ?_);intro ft cn co fu;revert bp ay ai aj O E X;refine eF co ?_;intro bp ay ai aj O E X;refine eK ?_;refine xC cn ?_
       all_goals exact AX (J6 Ag Ab Ag (fun b h=>by omega) Ag (fun b h=>by omega)) Ag X
     . rw [show CE (Ap c.ts p.2).text=42 from by rw [e];decide];refine Af func262 ntmps262 rfl rfl ?_;refine cS (eA [_,_,_,_] ?_);intro i1 i2 aa di i3 i4;revert hP X;refine eE di ?_;intro hP X;refine eK ?_;refine eQ rfl (a4 Ag) ?_;rintro _ fv ⟨i5,⟨fw,⟨⟨⟩,⟨F,⟨ar,be⟩⟩⟩⟩⟩;have fx:=be.size;have aa:=aa.fr be Ab;clear hP;have X:=X.fr be Ab;refine xA [_,_,_,_] ?_;intro fy fz cp;refine eI [_,_,_,_] cp ?_;intro f0 U cq f1 f2;revert F ar aa X;refine eE cq ?_;intro F ar aa X;refine eK ?_;refine cC rfl (Bg _ _ _ Ag) ?_;rintro _ f3 ⟨⟨⟩,cr⟩;revert U F ar aa X;refine eY cr ?_;intro f4 U F ar aa X;refine C1 (AR Ac rfl rfl rfl rfl rfl rfl) (cT (Ar (cS (C1 V8 (C1 Pa (cT (Fa rfl (fun M=>absurd (e.symm.trans M) Az) (cS (C1 V8 (C1 Pa (cT ?_)))))))))));refine Fa rfl (fun M=>absurd (e.symm.trans M) Az) (cS (C1 V8 (C1 Pa (cT (OX (Ad (C1 Pa (Ah (Ae (Ai (cS ?_)))))))))));refine C1 Mv (C1 Pn (C1 Pf (C1 (Pl (PP.blk ar)) ?_)));refine eK ?_;refine Ce Ac rfl rfl rfl rfl Ag h2 ?_;rintro f5 f6 bq;revert U F;refine eZ bq ?_;intro f7 U F;revert aa X;refine eF bq ?_;intro aa X;refine eK ?_;refine eQ rfl ((Ef c k).expr _ _ _ Ag hf Az Az) ?_;rintro _ f8 ⟨f9,⟨ga,⟨⟨⟩,⟨ak,⟨al,br⟩⟩⟩⟩⟩;have gb:=br.size;revert U F aa X;refine eF br ?_;intro U F aa X;refine xA [_,_,_,_] ?_;intro gc gd ct;refine eI [_,_,_,_] ct ?_;intro gf a0 cu gg gh;revert ak al U F aa X;refine eE cu ?_;intro ak al U F aa X;refine eK ?_;refine Au (xS [_,_,_,_,_,_,_,_]) rfl ?_ aFh;rintro _ gi ⟨gj,rfl,a1,gk⟩;have bs:=a1.blk;have cv:=a1.ext;have gl:=a1.pos;have gm:=a1.size;revert a0 ak al U F aa X;refine eE cv ?_;intro a0 ak al U F aa X;refine C1 (xB [_,_,_,_]) (eS [_,_,_,_] aa ?_);intro gn cw cx go;revert bs a0 ak al U F X;refine eF cx ?_;intro bs a0 ak al U F X;refine eK ?_;refine xC cw ?_
       all_goals exact AX (J6 Ag Ab Ag (fun b h=>by omega) Ag (fun b h=>by omega)) Ag X
     . rw [show CE (Ap c.ts p.2).text=56 from by rw [e];decide];refine Af func262 ntmps262 rfl rfl ?_;refine cS (eA [_,_,_,_] ?_);intro i6 i7 ab dk i8 i9;revert hP X;refine eE dk ?_;intro hP X;refine eK ?_;refine eQ rfl (a4 Ag) ?_;rintro _ gp ⟨ja,⟨gq,⟨⟨⟩,⟨L,⟨au,bf⟩⟩⟩⟩⟩;have gr:=bf.size;have ab:=ab.fr bf Ab;clear hP;have X:=X.fr bf Ab;refine xA [_,_,_,_] ?_;intro gs gt cy;refine eI [_,_,_,_] cy ?_;intro gu V cz gv gw;revert L au ab X;refine eE cz ?_;intro L au ab X;refine eK ?_;refine cC rfl (Bg _ _ _ Ag) ?_;rintro _ gx ⟨⟨⟩,c0⟩;revert V L au ab X;refine eY c0 ?_;intro gy V L au ab X;refine C1 (AR Ac rfl rfl rfl rfl rfl rfl) (cT (Ar (cS (C1 V8 (C1 Pa (cT (Fa rfl (fun M=>absurd (e.symm.trans M) Az) (cS (C1 V8 (C1 Pa (cT ?_)))))))))));refine Fa rfl (fun M=>absurd (e.symm.trans M) Az) (cS (C1 V8 (C1 Pa (cT (Fa rfl (fun M=>absurd (e.symm.trans M) Az) (cS (C1 V8 (C1 Pa (cT (OX (Ad ?_)))))))))));refine C1 Pa (Ah (Ae (Ai (cS (C1 Mv (C1 Pn (C1 Pf (C1 (Pl (PP.blk au)) ?_))))))));refine eK ?_;refine Ce Ac rfl rfl rfl rfl Ag h2 ?_;rintro gz g0 bt;revert V L;refine eZ bt ?_;intro g1 V L;revert ab X;refine eF bt ?_;intro ab X;refine eK ?_;refine eQ rfl ((Ef c k).expr _ _ _ Ag hf Az Az) ?_;rintro _ g2 ⟨g3,⟨g4,⟨⟨⟩,⟨am,⟨an,bu⟩⟩⟩⟩⟩;have g5:=bu.size;revert V L ab X;refine eF bu ?_;intro V L ab X;refine xA [_,_,_,_] ?_;intro g6 g7 c1;refine eI [_,_,_,_] c1 ?_;intro g8 a2 c2 g9 ha;revert am an V L ab X;refine eE c2 ?_;intro am an V L ab X;refine eK ?_;refine Au (xS [_,_,_,_,_,_,_,_]) rfl ?_ aFh;rintro _ hb ⟨hc,rfl,a3,hd⟩;have bv:=a3.blk;have c3:=a3.ext;have he:=a3.pos;have hg:=a3.size;revert a2 am an V L ab X;refine eE c3 ?_;intro a2 am an V L ab X;refine C1 (xB [_,_,_,_]) (eS [_,_,_,_] ab ?_);intro hi c4 c5 hj;revert bv a2 am an V L X;refine eF c5 ?_;intro bv a2 am an V L X;refine eK ?_;refine xC c4 ?_
       all_goals exact AX (J6 Ag Ab Ag (fun b h=>by omega) Ag (fun b h=>by omega)) Ag X
def PW {c:PC} {σ:PS} {w:wD} (f:PP c σ w) (ρ:PS):(Ap c.ts ρ).text.length<=1000000:=by
 unfold Ap;split
 . simp [Tok.zero]
 . rw [dC];rcases bQ ρ.at_ c.ts.length with h|h
   . rw [aY h];exact f.tok _ (bD h)
   . rw [bS h];simp [Tok.zero]
def LY (c:PC) (k:Nat) (kind:Int) (σ:PS) (w:wD) (hP:PP c σ w) (hi:In c.ts σ) (hk:4*mS c.ts σ<=k) :
 Calls prog 259 #[.pointer (some ⟨c.pb,0,none⟩),.int .u8 kind] w (TreeR c w (Fq c.ts c.n k kind σ)):=by
 have X:=eG (· = c.pb) w;have hpb:=hP.pbB;have hB:=hP.B;have hlen:=hP.len;have h2:=hi.2;have hm:=Ca hi;have a3:=AB hi;have a4:=a3.trans (AM (n:=c.n) a3.wf);have a5:=a4.trans (Aq (n:=c.n) (t:=[40]) a4.wf Az);unfold Fq;dsimp only;generalize hM:A4 c.ts c.n (Ao σ)=M at *;have hname : ∀ {w':wD},PP c (Ao σ) w'->Calls prog 210 #[.pointer (some ⟨c.pb,0,none⟩)] w' fun r w''=>r = .returned (str M.1)/\PP c M.2 w''/\Fr (· = c.pb) w' w'':=fun h=>hM▸EY c _ _ h
 cases hh:B7 c.ts (AA c.ts c.n M.2 [40]) [41]
 case true=>
  simp only [if_true];refine Af func259 ntmps259 rfl rfl ?_;refine cS (eA [_,_,_,_] ?_);intro b1 w2 h5 x6 p7 z8;revert hP X;refine eE x6 ?_;intro hP X;refine cN (C1 Mv (C1 Pn (C1 Pf (C1 (Pl (PP.blk hP)) ?_))));refine eK ?_;refine Ce Ac rfl rfl rfl rfl Ag h2 ?_;rintro w9 e7 a1;have e8:=a1.size;have h5:=h5.fr a1 Ab;clear hP;have X:=X.fr a1 Ab;refine eK ?_;refine cC rfl (hname Ag) ?_;rintro _ e9 ⟨⟨⟩,⟨a6,a7⟩⟩;have fa:=a7.size;revert h5 X;refine eF a7 ?_;intro h5 X;refine C1 (xB [_,_,_,_]) (xA [_,_,_,_] ?_);intro fb fc cf;refine eI [_,_,_,_] cf ?_;intro fd R cg fe ff;revert a6 h5 X;refine eE cg ?_;intro a6 h5 X;refine eK ?_;refine cC rfl (BU _ _ _ _ Ag Az) ?_;rintro _ fg ⟨⟨⟩,⟨fh,a2⟩⟩;have fi:=a2.size;have R:=R.fr a2 Ab;revert h5 X;refine eF a2 ?_;intro h5 X;refine eK ?_;refine cC rfl (Cf _ _ _ _ Ag Az Ag) ?_;rintro _ fj ⟨⟨⟩,⟨a8,a9⟩⟩;have fk:=a9.size;revert R h5 X;refine eF a9 ?_;intro R h5 X;refine eK ?_;refine eS [_,_,_,_] h5 ?_;intro fl ch ci fm;revert a8 R X;refine eF ci ?_;intro a8 R X;refine eK ?_;refine xC ch ?_;exact AX CX Ag X
 simp only [dH,if_false];refine Af func259 ntmps259 rfl rfl ?_;refine cS (eA [_,_,_,_] ?_);intro ba fn d cj fo fp;revert hP X;refine eE cj ?_;intro hP X;refine cN (C1 Mv (C1 Pn (C1 Pf (C1 (Pl (PP.blk hP)) ?_))));refine eK ?_;refine Ce Ac rfl rfl rfl rfl Ag h2 ?_;rintro fq cs T;have ct:=T.size;have d:=d.fr T Ab;clear hP;have X:=X.fr T Ab;refine eK ?_;refine cC rfl (hname Ag) ?_;rintro _ cu ⟨⟨⟩,⟨ae,af⟩⟩;have cv:=af.size;revert d X;refine eF af ?_;intro d X;refine C1 (xB [_,_,_,_]) (xA [_,_,_,_] ?_);intro E cw bb;refine eI [_,_,_,_] bb ?_;intro cx a bc cy cz;revert ae d X;refine eE bc ?_;intro ae d X;refine eK ?_;refine cC rfl (BU _ _ _ _ Ag Az) ?_;rintro _ c0 ⟨⟨⟩,⟨c1,U⟩⟩;have c2:=U.size;have a:=a.fr U Ab;revert d X;refine eF U ?_;intro d X;refine eK ?_;refine cC rfl (BS _ _ _ _ Ag Az Ag) ?_;rintro _ ag ⟨⟨⟩,⟨V,ah⟩⟩;have c3:=ah.size;revert a d X;refine eF ah ?_;intro a d X;refine eK ?_;refine AC (fun wz=>Fr (· = c.pb) ag wz) 5 (.pure 0 (.pure 1 (.pure 2 (.fork 3 (.fork 4 .tail .none) .none)))) mixed Bl (Aa An) ?_;intro bd ai _;have e:(fun wz=>Fr (· = c.pb) ag wz) bd:=eJ ai;simp only at e;have ca:=V;have ad:=a;have ck:=d;revert V a d X;refine eY ai ?_;intro c4 V a d X;refine ⟨e,?_⟩;refine Tq rfl Pf (Tq rfl (Ax Ac rfl rfl rfl (fun wz hz=>dP (dQ ad hz Ab) rfl)) (Tq rfl Mv ?_));refine tC rfl rfl (G9 _ _ _ Ag) ?_;rintro _ c5 ⟨c6,⟨c7,⟨⟨⟩,⟨W,⟨u,Y⟩⟩⟩⟩⟩;have c8:=Y.size;have e:=e.fr Y Ab;revert a d X;refine eF Y ?_;intro a d X;refine ⟨e,?_⟩;refine A1 rfl (xS [_,_,_,_]) rfl ?_ aFh A7;rintro _ c9 ⟨da,rfl,F,db⟩;have aj:=F.blk;have be:=F.ext;have dc:=F.pos;have dd:=F.size;revert W u e a d X;refine eE be ?_;intro W u e a d X;refine ⟨e,?_⟩;refine AF rfl ?_
 refine BN (sh:=ndShape) (B:=E+1) Ac CM rfl rfl rfl rfl Bl rfl rfl rfl OwnL.nil (eC aj) ⟨_,_,rfl,CX⟩ Bd Ab rfl ?_;intro g cap wA hown fA;have zA:=fA.size;have u:=u.fr fA (fun k hk=>by omega);revert a d;refine eF fA ?_;intro a d;have X:=X.fr fA (fun k hk=>bF Ab);clear fA aj W;refine C1 Pf (eV [_] [_,_,_,_] a ?_);intro cl bf cm fs;revert hown u d X;refine eF cm ?_;intro hown u d X;refine cT (Aj (Ar ?_));generalize ha:DB c.ts c.n (AA c.ts c.n M.2 [40])=A at *;have hA:Le c.ts σ A.2:=by rw [<-ha];exact a5.trans (AM (n:=c.n) a5.wf)
 have ft:=BC hA;have hmt:mS c.ts σ<=c.ts.length:=by unfold mS;split<;>omega
 refine AJ (ι:=Nat×List Nd×Nat×Nat×PS) (fun _=>[(0,.pointer (some ⟨c.pb,0,none⟩)),(4,.pointer (some ⟨ba,0,none⟩)),(5,.pointer (some ⟨E,0,none⟩))])
  (fun x w'=>PP c x.2.2.2.2 w'/\Blk w' E [.int .u8 kind,.int .i64 0,str M.1,.slice (some ⟨x.2.2.1,0,none⟩) x.2.1.length x.2.2.2.1]/\OwnL ndShape w' (E+1) 32 (.slice (some ⟨x.2.2.1,0,none⟩) x.2.1.length x.2.2.2.1) x.2.1 /\
   Blk w' ba [.int .u8 0,.int .i64 0,.string ⟨#[]⟩,.slice none 0 0]/\Fr (· = c.pb) w w'/\cl.heap.size<=w'.heap.size /\
   Cx c.ts c.n k [A.1] A.2=Cx c.ts c.n x.1 x.2.1 x.2.2.2.2/\mS c.ts x.2.2.2.2+1<=x.1/\x.2.1.length+mS c.ts x.2.2.2.2<=1000001) (fun x=>x.1) (k,[A.1],g,cap,A.2) sB
  ⟨Ag,bf,hown,Ag,X,bJ _,rfl,by simp only;omega,by simp only [aV,aX];omega⟩ ?_
 rintro ⟨j,acc,g,cap,σ'⟩ w1 ⟨hP,hbn,hown,hbr,X,hz,he,hfj,hacc⟩;simp only at hP hbn hown he hfj hacc;clear bf hM hname;rw [he];obtain ⟨j,rfl⟩ : ∃i,j=i+1:=⟨j-1,Ab⟩
 cases hc:B7 c.ts σ' [44]
 case false=>
  rw [show Cx c.ts c.n (j+1) acc σ'=(acc,σ') from by rw [Cx];simp [hc]];refine eK ?_;refine cC rfl (BS _ _ _ _ Ag Az Ag) ?_;rintro _ fu ⟨⟨⟩,⟨fv,bg⟩⟩;have fw:=bg.size;clear hP;revert hbn hown hbr X;refine eF bg ?_;intro hbn hown hbr X;refine eK ?_;refine cC rfl (BU _ _ _ _ Ag Az) ?_;rintro _ fx ⟨⟨⟩,⟨bh,bi⟩⟩;have fy:=bi.size;revert hbn hown hbr X;refine eF bi ?_;intro hbn hown hbr X;refine eK ?_;refine eS [_,_,_,_] hbr ?_;intro fz bj bk de;clear hbr;revert bh hbn hown X;refine eF bk ?_;intro bh hbn hown X;refine eK ?_;refine xC bj ?_;exact AX (Jp (hown.sits (fun b h=>by omega))) Ag X
 have hin:=AN hP.at_ hc Az;have hmn:=Ca hin;have hnl:=PW hP (Ao σ');by_cases h8:acc.length=8
 . cases hnm:A9 (Ap c.ts (Ao σ')).text
   . rw [show Cx c.ts c.n (j+1) acc σ'=Cx c.ts c.n j (acc++[(DB c.ts c.n (Ao σ')).1]) (DB c.ts c.n (Ao σ')).2 from by rw [Cx];simp [hc,h8,hnm]];have hml:=BC (AM (n:=c.n) (show (Ao σ').at_<=c.ts.length from hin.2));have ak:mS c.ts (DB c.ts c.n (Ao σ')).2<=mS c.ts (Ao σ'):=hml;refine eK ?_;refine cC rfl (Cf _ _ _ _ Ag Az Ag) ?_;rintro _ f0 ⟨⟨⟩,⟨C,bl⟩⟩;have f1:=bl.size;clear hP;revert hbn hown hbr X;refine eF bl ?_;intro hbn hown hbr X;refine eK ?_;refine cC rfl (Bg _ _ _ Ag) ?_;rintro _ f2 ⟨⟨⟩,cn⟩;revert C hbn hown hbr X;refine eY cn ?_;intro f3 C hbn hown hbr X;refine xA [_,_,_] ?_;intro f4 f5 bm;refine eI [_,_,_] bm ?_;intro df p bn dg dh;revert C hbn hown hbr X;refine eE bn ?_;intro C hbn hown hbr X;refine eK ?_;refine cC rfl (G0 _ _ Ab) ?_;rintro _ al ⟨⟨⟩,bo⟩;revert p C hbn hown hbr X;refine eY bo ?_;intro di p C hbn hown hbr X;refine C1 Uy (cT (Fp rfl Ag ?_));refine eK ?_;refine AC (fun wz=>Fr (· = c.pb) al wz) 5 (.pure 0 (.pure 1 (.pure 2 (.fork 3 (.fork 4 .tail .none) .none)))) mixed Bl (Al (Aa (Al (Aa An)))) ?_;intro bp am _;have f:(fun wz=>Fr (· = c.pb) al wz) bp:=eJ am;simp only at f;have cb:=p;have co:=C;have q:=hbn;have G:=hown;have Z:=hbr;revert p C hbn hown hbr X;refine eY am ?_;intro dj p C hbn hown hbr X;refine ⟨f,?_⟩;refine Tq rfl Pf (Tq rfl (Ax Ac rfl rfl rfl (fun wz hz=>dP (dQ q hz Ab) rfl)) (Tq rfl Mv ?_))
     refine tC rfl rfl (G9 _ _ _ Ag) ?_;rintro _ dk ⟨dl,⟨dm,⟨⟨⟩,⟨an,⟨v,ao⟩⟩⟩⟩⟩;revert f p;refine eZ ao ?_;intro dn f p;revert hbn hown hbr X;refine eF ao ?_;intro hbn hown hbr X;refine ⟨f,?_⟩;refine A1 rfl (xS [_,_,_,_]) rfl ?_ aFh A7;rintro _ dp ⟨dq,rfl,I,dr⟩;have ds:=I.blk;have bq:=I.ext;have dt:=I.pos;have du:=I.size;revert an v f p hbn hown hbr X;refine eE bq ?_;intro an v f p hbn hown hbr X;refine ⟨f,?_⟩;refine AF rfl (BN (sh:=ndShape) Ac CM rfl rfl rfl rfl Bl rfl rfl rfl hown (eC Ag) ⟨_,_,rfl,CX⟩ Ab Ab rfl ?_);rintro dv br dw ap J;have dx:=J.size;have v:=v.fr J Ab;have hbn:=hbn.fr J Ab;clear hown;revert hbr X;refine eF J ?_;intro hbr X;refine C1 Pf (eV [_] [_,_,_,_] hbn ?_);intro dy dz bs d0;clear hbn;revert ap v hbr X;refine eF bs ?_;intro ap v hbr X;refine Ah (Ae ?_);refine Aw (j,acc++[(DB c.ts c.n (Ao σ')).1],_,_,(DB c.ts c.n (Ao σ')).2) sB ⟨Ag,Ag,Ag,Ag,X,Ab,rfl,by simp only;omega,by simp only [aU,aV,aX];omega⟩ Bd
   . rw [show Cx c.ts c.n (j+1) acc σ'=Cx c.ts c.n j (acc++[(DB c.ts c.n (Bw (Ao σ') (Ap c.ts (Ao σ')).pos 5)).1]) (DB c.ts c.n (Bw (Ao σ') (Ap c.ts (Ao σ')).pos 5)).2 from by rw [Cx];simp [hc,h8,hnm]];have hfl:=BZ (show (Ao σ').at_<=c.ts.length from hin.2) (Ap c.ts (Ao σ')).pos 5;have hml:=BC (hfl.trans (AM (n:=c.n) hfl.wf));have ak:mS c.ts (DB c.ts c.n (Bw (Ao σ') (Ap c.ts (Ao σ')).pos 5)).2<=mS c.ts (Ao σ'):=hml;refine eK ?_;refine cC rfl (Cf _ _ _ _ Ag Az Ag) ?_;rintro _ f6 ⟨⟨⟩,⟨S,bt⟩⟩;have f7:=bt.size;clear hP;revert hbn hown hbr X;refine eF bt ?_;intro hbn hown hbr X;refine eK ?_;refine cC rfl (Bg _ _ _ Ag) ?_;rintro _ f8 ⟨⟨⟩,cp⟩;revert S hbn hown hbr X;refine eY cp ?_;intro f9 S hbn hown hbr X;refine xA [_,_,_] ?_;intro ga gb bu;refine eI [_,_,_] bu ?_;intro d1 l bv d2 d3;revert S hbn hown hbr X;refine eE bv ?_;intro S hbn hown hbr X;refine eK ?_;refine cC rfl (G0 _ _ Ab) ?_;rintro _ d4 ⟨⟨⟩,bw⟩;revert l S hbn hown hbr X;refine eY bw ?_;intro d5 l S hbn hown hbr X;refine C1 Uy (cT (Fc rfl Ag ?_));refine eK ?_;refine cC rfl (FQ _ _ _ _ _ Ag) ?_;rintro _ aq ⟨⟨⟩,⟨aa,ab⟩⟩;have d6:=ab.size;have l:=l.fr ab Ab;revert hbn hown hbr X;refine eF ab ?_;intro hbn hown hbr X;refine cT (AC (fun wz=>Fr (· = c.pb) aq wz) 5 (.pure 0 (.pure 1 (.pure 2 (.fork 3 (.fork 4 .tail .none) .none)))) mixed Bl (Al (Aa (Al (Aa An)))) ?_);intro bx ar _;have m:(fun wz=>Fr (· = c.pb) aq wz) bx:=eJ ar;simp only at m;have cc:=aa
     have cd:=l;have q:=hbn;have G:=hown;have Z:=hbr;revert aa l hbn hown hbr X;refine eY ar ?_;intro d7 aa l hbn hown hbr X;refine ⟨m,?_⟩;refine Tq rfl Pf (Tq rfl (Ax Ac rfl rfl rfl (fun wz hz=>dP (dQ q hz Ab) rfl)) (Tq rfl Mv ?_));refine tC rfl rfl (G9 _ _ _ Ag) ?_;rintro _ d8 ⟨d9,⟨ea,⟨⟨⟩,⟨au,⟨y,ac⟩⟩⟩⟩⟩;have eb:=ac.size;have m:=m.fr ac Ab;revert l hbn hown hbr X;refine eF ac ?_;intro l hbn hown hbr X;refine ⟨m,?_⟩;refine A1 rfl (xS [_,_,_,_]) rfl ?_ aFh A7;rintro _ ec ⟨ed,rfl,L,ee⟩;have ef:=L.blk;have bz:=L.ext;have eg:=L.pos;have eh:=L.size;revert au y m l hbn hown hbr X;refine eE bz ?_;intro au y m l hbn hown hbr X;refine ⟨m,?_⟩;refine AF rfl (BN (sh:=ndShape) Ac CM rfl rfl rfl rfl Bl rfl rfl rfl hown (eC Ag) ⟨_,_,rfl,CX⟩ Ab Ab rfl ?_);rintro ei b0 ej av N;have ek:=N.size;have y:=y.fr N Ab;have hbn:=hbn.fr N Ab;clear hown;revert hbr X;refine eF N ?_;intro hbr X;refine C1 Pf (eV [_] [_,_,_,_] hbn ?_);intro el em b2 en;clear hbn;revert av y hbr X;refine eF b2 ?_;intro av y hbr X;refine Ah (Ae ?_);refine Aw (j,acc++[(DB c.ts c.n (Bw (Ao σ') (Ap c.ts (Ao σ')).pos 5)).1],_,_,(DB c.ts c.n (Bw (Ao σ') (Ap c.ts (Ao σ')).pos 5)).2) sB ⟨Ag,Ag,Ag,Ag,X,Ab,rfl,by simp only;omega,by simp only [aU,aV,aX];omega⟩ Bd
 . rw [show Cx c.ts c.n (j+1) acc σ'=Cx c.ts c.n j (acc++[(DB c.ts c.n (Ao σ')).1]) (DB c.ts c.n (Ao σ')).2 from by rw [Cx];simp [hc,h8]];have hml:=BC (AM (n:=c.n) (show (Ao σ').at_<=c.ts.length from hin.2));have ak:mS c.ts (DB c.ts c.n (Ao σ')).2<=mS c.ts (Ao σ'):=hml;refine eK ?_;refine cC rfl (Cf _ _ _ _ Ag Az Ag) ?_;rintro _ gc ⟨⟨⟩,⟨D,b3⟩⟩;have gd:=b3.size;clear hP;revert hbn hown hbr X;refine eF b3 ?_;intro hbn hown hbr X;refine eK ?_;refine cC rfl (Bg _ _ _ Ag) ?_;rintro _ ge ⟨⟨⟩,cq⟩;revert D hbn hown hbr X;refine eY cq ?_;intro gf D hbn hown hbr X;refine xA [_,_,_] ?_;intro gg gh b4;refine eI [_,_,_] b4 ?_;intro aw s b5 eo ep;revert D hbn hown hbr X;refine eE b5 ?_;intro D hbn hown hbr X;refine eK ?_;refine AC (fun wz=>Fr (· = c.pb) aw wz) 5 (.pure 0 (.pure 1 (.pure 2 (.fork 3 (.fork 4 .tail .none) .none)))) mixed Bl (Al (Aa (Al (Aa An)))) ?_;intro b6 ax _;have o:(fun wz=>Fr (· = c.pb) aw wz) b6:=eJ ax;simp only at o;have ce:=s;have cr:=D;have q:=hbn;have G:=hown;have Z:=hbr;revert s D hbn hown hbr X;refine eY ax ?_;intro eq s D hbn hown hbr X;refine ⟨o,?_⟩;refine Tq rfl Pf (Tq rfl (Ax Ac rfl rfl rfl (fun wz hz=>dP (dQ q hz Ab) rfl)) (Tq rfl Mv ?_));refine tC rfl rfl (G9 _ _ _ Ag) ?_;rintro _ er ⟨es,⟨et,⟨⟨⟩,⟨ay,⟨z,az⟩⟩⟩⟩⟩
   revert o s;refine eZ az ?_;intro eu o s;revert hbn hown hbr X;refine eF az ?_;intro hbn hown hbr X;refine ⟨o,?_⟩;refine A1 rfl (xS [_,_,_,_]) rfl ?_ aFh A7;rintro _ ev ⟨ew,rfl,O,ex⟩;have ey:=O.blk;have b7:=O.ext;have ez:=O.pos;have e0:=O.size;revert ay z o s hbn hown hbr X;refine eE b7 ?_;intro ay z o s hbn hown hbr X;refine ⟨o,?_⟩;refine AF rfl (BN (sh:=ndShape) Ac CM rfl rfl rfl rfl Bl rfl rfl rfl hown (eC Ag) ⟨_,_,rfl,CX⟩ Ab Ab rfl ?_);rintro e1 b8 e2 a0 Q;have e3:=Q.size;have z:=z.fr Q Ab;have hbn:=hbn.fr Q Ab;clear hown;revert hbr X;refine eF Q ?_;intro hbr X;refine C1 Pf (eV [_] [_,_,_,_] hbn ?_);intro e4 e5 b9 e6;clear hbn;revert a0 z hbr X;refine eF b9 ?_;intro a0 z hbr X;refine Ah (Ae ?_);refine Aw (j,acc++[(DB c.ts c.n (Ao σ')).1],_,_,(DB c.ts c.n (Ao σ')).2) sB ⟨Ag,Ag,Ag,Ag,X,Ab,rfl,by simp only;omega,by simp only [aU,aV,aX];omega⟩ Bd
structure StmtsC (c:PC) (k:Nat):Prop where
 stmt : ∀(σ:PS) (w:wD),PP c σ w->4*mS c.ts σ+6<=k->Calls prog 246 #[.pointer (some ⟨c.pb,0,none⟩)] w (TreeR c w (Bt c.ts c.n k σ))
 branches : ∀(kind:Int) (mid last:lB) (σ:PS) (w:wD),PP c σ w->In c.ts σ->mid≠[]->last≠[]->4*mS c.ts σ+5<=k->Calls prog 260 #[.pointer (some ⟨c.pb,0,none⟩),.int .u8 kind,str mid,str last] w (TreeR c w (BK c.ts c.n k kind mid last σ))
 local_ : ∀(σ:PS) (w:wD),PP c σ w->In c.ts σ->4*mS c.ts σ+5<=k->Calls prog 261 #[.pointer (some ⟨c.pb,0,none⟩)] w (TreeR c w (Du c.ts c.n k σ))
 block : ∀(σ:PS) (w:wD),PP c σ w->4*mS c.ts σ+8<=k->Calls prog 213 #[.pointer (some ⟨c.pb,0,none⟩)] w (TreeR c w (Ct c.ts c.n k σ))
def Ri (c:PC) (k:Nat) (IH : ∀j,j<=k->StmtsC c j) (kind:Int) (ab Y:lB) (σ:PS) (w:wD) (hP:PP c σ w) (hi:In c.ts σ) (af:ab≠[]) (ac:Y≠[]) (hk:4*mS c.ts σ+5<=k+1) :
 Calls prog 260 #[.pointer (some ⟨c.pb,0,none⟩),.int .u8 kind,str ab,str Y] w (TreeR c w (BK c.ts c.n (k+1) kind ab Y σ)):=by
 have X:=eG (· = c.pb) w;have a3:=hP.pbB;have hB:=hP.B;have a2:=hP.len;have h2:=hi.2;have hm:=Ca hi;rw [BK]
 (try dsimp only)
 have l1:=AB hi;have l2:=Dx (n:=c.n) (k:=k) (lv:=1) l1.wf;have l3:=(DR (ts:=c.ts) (n:=c.n) k).2.2.2.1 _ l2.wf;have l4:=Aq (n:=c.n) l3.wf af;have l5:=(DR (ts:=c.ts) (n:=c.n) k).2.2.2.1 _ l4.wf;have l6:=Aq (n:=c.n) l5.wf ac;have m2:=BC l2;have m3:=BC l3;have m4:=BC l4;have m5:=BC l5;have m6:=BC l6;refine Af func260 ntmps260 rfl rfl ?_;refine cS (eA [_,_,_,_] ?_);intro b1 w2 M x6 p7 z8;revert hP X;refine eE x6 ?_;intro hP X;refine cN (C1 Mv (C1 Pn (C1 Pf (C1 (Pl (PP.blk hP)) ?_))));refine eK ?_;refine Ce Ac rfl rfl rfl rfl Ag h2 ?_;rintro w9 a4 ad;have a5:=ad.size;have M:=M.fr ad Ab;clear hP;have X:=X.fr ad Ab;refine eK ?_;refine eQ rfl ((Ef c k).expr _ _ _ Ag Ab Az Az) ?_;rintro _ a6 ⟨a7,⟨a8,⟨⟨⟩,⟨f,⟨ag,ah⟩⟩⟩⟩⟩;have a9:=ah.size;revert M X;refine eF ah ?_;intro M X;refine xA [_,_,_,_] ?_;intro ba bb ap;refine eI [_,_,_,_] ap ?_;intro bc E aq bd be;revert f ag M X;refine eE aq ?_;intro f ag M X;refine eK ?_;refine eQ rfl ((IH k (bJ _)).block _ _ Ag Ab) ?_;rintro _ bf ⟨bg,⟨bh,⟨⟨⟩,⟨F,⟨ai,aj⟩⟩⟩⟩⟩;revert E f;refine eZ aj ?_;intro bi E f;revert M X;refine eF aj ?_;intro M X;refine xA [_,_,_,_] ?_;intro bj bk ar;refine eI [_,_,_,_] ar ?_;intro bl L au bm bn;revert F ai E f M X;refine eE au ?_;intro F ai E f M X;refine eK ?_;refine cC rfl (BU _ _ _ _ Ag Ag) ?_;rintro _ bo ⟨⟨⟩,⟨bp,ae⟩⟩;have z46:=ae.size;revert L F;refine eF ae ?_
 intro L F;revert E f M X;refine eF ae ?_;intro E f M X;refine eK ?_;refine eQ rfl ((IH k (bJ _)).block _ _ Ag Ab) ?_;rintro _ bq ⟨br,⟨bs,⟨⟨⟩,⟨N,⟨ak,al⟩⟩⟩⟩⟩;have z53:=al.size;revert L F E f M X;refine eF al ?_;intro L F E f M X;refine xA [_,_,_,_] ?_;intro bt bu av;refine eI [_,_,_,_] av ?_;intro bv O aw bw bx;revert N ak L F E f M X;refine eE aw ?_;intro N ak L F E f M X;refine eK ?_;refine cC rfl (BU _ _ _ _ Ag Ag) ?_;rintro _ M7 ⟨⟨⟩,⟨bz,am⟩⟩;revert O N;refine eZ am ?_;intro b0 O N;revert L F E f M X;refine eF am ?_;intro L F E f M X;refine eK ?_;refine eQ rfl ((Ef c k).expr _ _ _ Ag Ab Az Az) ?_;rintro _ b2 ⟨b3,⟨b4,⟨⟨⟩,⟨U,⟨V,an⟩⟩⟩⟩⟩;have z72:=an.size;revert O N L F E f M X;refine eF an ?_;intro O N L F E f M X;refine xA [_,_,_,_] ?_;intro b5 b6 ax;refine eI [_,_,_,_] ax ?_;intro b7 Z ay b8 z80;revert U V O N L F E f M X;refine eE ay ?_;intro U V O N L F E f M X;refine eK ?_;refine Au (xS [_,_,_,_,_,_,_,_,_,_,_,_,_,_,_,_]) rfl ?_ aFh;rintro _ b9 ⟨ca,rfl,aa,cb⟩;have ao:=aa.blk;have az:=aa.ext;have cc:=aa.pos;have cd:=aa.size;revert Z U V O N L F E f M X;refine eE az ?_;intro Z U V O N L F E f M X;refine C1 (xB [_,_,_,_]) (eS [_,_,_,_] M ?_);intro ce a0 a1 cf;revert ao Z U V O N L F E f X;refine eF a1 ?_;intro ao Z U V O N L F E f X;refine eK ?_;refine xC a0 ?_
 exact AX (Yx Ag Ab Ag (fun b h=>by omega) Ag (fun b h=>by omega) Ag (fun b h=>by omega) Ag (fun b h=>by omega)) Ag X
def Xb (c:PC) (k:Nat) (IH : ∀j,j<=k->StmtsC c j) (σ:PS) (w:wD) (hP:PP c σ w) (hi:In c.ts σ) (hk:4*mS c.ts σ+5<=k+1) :
 Calls prog 261 #[.pointer (some ⟨c.pb,0,none⟩)] w (TreeR c w (Du c.ts c.n (k+1) σ)):=by
 have X:=eG (· = c.pb) w;have hpb:=hP.pbB;have hB:=hP.B;have hlen:=hP.len;have h2:=hi.2;have hm:=Ca hi;have l1:=AB hi;rw [Du]
 (try dsimp only)
 cases hs:B7 c.ts (Ao σ) [115,116,97,99,107]
 case true=>
  simp only [if_true];have l2:=AB (AN l1.wf hs Az);have l3:=AM (n:=c.n) l2.wf;have m2:=BC l2;have m3:=BC l3;refine Af func261 ntmps261 rfl rfl ?_;refine cS (eA [_,_,_,_] ?_);intro b1 w2 h5 x6 p7 z8;revert hP X;refine eE x6 ?_;intro hP X;refine cN (C1 Mv (C1 Pn (C1 Pf (C1 (Pl (PP.blk hP)) ?_))));refine eK ?_;refine Ce Ac rfl rfl rfl rfl Ag h2 ?_;rintro w9 bq G;have br:=G.size;have h5:=h5.fr G Ab;clear hP;have X:=X.fr G Ab;refine eK ?_;refine cC rfl (Cf _ _ _ _ Ag Az Ag) ?_;rintro _ bs ⟨⟨⟩,⟨bt,I⟩⟩;have bu:=I.size;revert h5 X;refine eF I ?_;intro h5 X;refine eK ?_;refine cC rfl (EY _ _ _ Ag) ?_;rintro _ bv ⟨⟨⟩,⟨bw,J⟩⟩;have bx:=J.size;revert h5 X;refine eF J ?_;intro h5 X;refine eK ?_;refine eQ rfl ((IH k (bJ _)).block _ _ Ag Ab) ?_;rintro _ bz ⟨b0,⟨b2,⟨⟨⟩,⟨q,⟨r,L⟩⟩⟩⟩⟩;have b3:=L.size;revert h5 X;refine eF L ?_;intro h5 X;refine Au (xS [_,_,_,_]) rfl ?_ aFh;rintro _ b4 ⟨b5,rfl,s,b6⟩;have M:=s.blk;have Y:=s.ext;have b7:=s.pos;have b8:=s.size;revert q r h5 X;refine eE Y ?_;intro q r h5 X;refine C1 (xB [_,_,_,_]) (eS [_,_,_,_] h5 ?_);intro b9 Z aa ca;revert M q r X;refine eF aa ?_;intro M q r X;refine eK ?_;refine xC Z ?_;exact AX (J4 Ag Ab Ag (fun b h=>by omega)) Ag X
 simp only [dH,if_false];have l2:=AM (n:=c.n) l1.wf;have l3:=Aq (n:=c.n) (t:=[61]) l2.wf Az;have l4:=Dx (n:=c.n) (k:=k) (lv:=1) l3.wf;have l5:=(DR (ts:=c.ts) (n:=c.n) k).2.2.2.1 _ l4.wf;have l6:=Aq (n:=c.n) (t:=[100,101,108,111,99,97,108]) l5.wf Az;have m2:=BC l2;have m3:=BC l3;have m4:=BC l4;have m5:=BC l5;have m6:=BC l6;refine Af func261 ntmps261 rfl rfl ?_;refine cS (eA [_,_,_,_] ?_);intro cb cc a ab cd ce;revert hP X;refine eE ab ?_;intro hP X;refine cN (C1 Mv (C1 Pn (C1 Pf (C1 (Pl (PP.blk hP)) ?_))));refine eK ?_;refine Ce Ac rfl rfl rfl rfl Ag h2 ?_;rintro cf ac p;have ad:=p.size;have a:=a.fr p Ab;clear hP;have X:=X.fr p Ab;refine eK ?_;refine cC rfl (BS _ _ _ _ Ag Az Ag) ?_;rintro _ ae ⟨⟨⟩,⟨af,u⟩⟩;have ag:=u.size;revert a X;refine eF u ?_;intro a X;refine eK ?_;refine cC rfl (EY _ _ _ Ag) ?_;rintro _ ah ⟨⟨⟩,⟨ai,v⟩⟩;have aj:=v.size;revert a X;refine eF v ?_;intro a X;refine eK ?_;refine cC rfl (BU _ _ _ _ Ag Az) ?_;rintro _ ak ⟨⟨⟩,⟨al,x⟩⟩;have am:=x.size;revert a X;refine eF x ?_;intro a X;refine eK ?_;refine eQ rfl ((Ef c k).expr _ _ _ Ag Ab Az Az) ?_;rintro _ an ⟨ao,⟨ap,⟨⟨⟩,⟨d,⟨y,z⟩⟩⟩⟩⟩;have aq:=z.size;revert a X;refine eF z ?_;intro a X;refine xA [_,_,_,_] ?_;intro ar au N;refine eI [_,_,_,_] N ?_;intro av e O aw ax;revert d y a X;refine eE O ?_;intro d y a X
 refine eK ?_;refine eQ rfl ((IH k (bJ _)).block _ _ Ag Ab) ?_;rintro _ ay ⟨az,⟨a0,⟨⟨⟩,⟨f,⟨A,C⟩⟩⟩⟩⟩;revert e d;refine eZ C ?_;intro a1 e d;revert a X;refine eF C ?_;intro a X;refine xA [_,_,_,_] ?_;intro a2 a3 Q;refine eI [_,_,_,_] Q ?_;intro a4 g R a5 a6;revert f A e d a X;refine eE R ?_;intro f A e d a X;refine eK ?_;refine cC rfl (BU _ _ _ _ Ag Az) ?_;rintro _ a7 ⟨⟨⟩,⟨a8,D⟩⟩;revert g f;refine eZ D ?_;intro a9 g f;revert e d a X;refine eF D ?_;intro e d a X;refine eK ?_;refine eQ rfl ((Ef c k).expr _ _ _ Ag Ab Az Az) ?_;rintro _ ba ⟨bb,⟨bc,⟨⟨⟩,⟨i,⟨l,E⟩⟩⟩⟩⟩;have bd:=E.size;revert g f e d a X;refine eF E ?_;intro g f e d a X;refine xA [_,_,_,_] ?_;intro be bf S;refine eI [_,_,_,_] S ?_;intro bg m T bh bi;revert i l g f e d a X;refine eE T ?_;intro i l g f e d a X;refine eK ?_;refine Au (xS [_,_,_,_,_,_,_,_,_,_,_,_]) rfl ?_ aFh;rintro _ bj ⟨bk,rfl,o,bl⟩;have F:=o.blk;have U:=o.ext;have bm:=o.pos;have bn:=o.size;revert m i l g f e d a X;refine eE U ?_;intro m i l g f e d a X;refine C1 (xB [_,_,_,_]) (eS [_,_,_,_] a ?_);intro bo V W bp;revert F m i l g f e d X;refine eF W ?_;intro F m i l g f e d X;refine eK ?_;refine xC V ?_
 exact AX (Yw Ag Ab Ag (fun b h=>by omega) Ag (fun b h=>by omega) Ag (fun b h=>by omega)) Ag X
def YJ (c:PC) (k:Nat) (IH : ∀j,j<=k->StmtsC c j) (σ:PS) (w:wD) (f:PP c σ w) (hk:4*mS c.ts σ+6<=k+1) :
 Calls prog 246 #[.pointer (some ⟨c.pb,0,none⟩)] w (TreeR c w (Bt c.ts c.n (k+1) σ)):=by
 have X:=eG (· = c.pb) w;have fo:=f.pbB;have hB:=f.B;have E : ∀t:lB,(Ap c.ts σ).text=t->t≠[]->In c.ts σ:=fun t h ht=>B2 f.at_ (bC (by rw [h];exact ht))
 have F:=bA E;clear E;rw [Bt];by_cases e0:(Ap c.ts σ).text=[112,117,115,104]
 . rw [AU e0];have E:=F.out _ e0 Az;refine Af func246 ntmps246 rfl rfl ?_;refine cS (eA [_,_,_,_] ?_);intro b1 w2 h5 x6 p7 z8;revert f X;refine eE x6 ?_;intro f X;refine eK ?_;refine cC rfl (Bg _ _ _ Ag) ?_;rintro _ fp ⟨⟨⟩,x9⟩;revert h5 f X;refine eY x9 ?_;intro fq h5 f X;refine C1 (AR Ac rfl rfl rfl rfl rfl rfl) ?_;refine eK ?_;refine eQ rfl (KO c k 44 _ _ Ag E Ab) ?_;rintro _ fs ⟨ft,⟨fu,⟨⟨⟩,⟨be,⟨bf,bc⟩⟩⟩⟩⟩;have fv:=bc.size;have h5:=h5.fr bc Ab;clear f;have X:=X.fr bc Ab;refine eS [_,_,_,_] h5 ?_;intro fw b4 b5 z22;revert be bf X;refine eF b5 ?_;intro be bf X;refine eK ?_;refine xC b4 ?_;exact AX (dR Ag (fun b h=>by omega)) Ag X
 rw [AE e0];by_cases e1:(Ap c.ts σ).text=[112,111,112]
 . rw [AU e1];have E:=F.out _ e1 Az;refine Af func246 ntmps246 rfl rfl ?_;refine cS (eA [_,_,_,_] ?_);intro fx fy L b6 fz f0;revert f X;refine eE b6 ?_;intro f X;refine eK ?_;refine cC rfl (Bg _ _ _ Ag) ?_;rintro _ ct ⟨⟨⟩,b7⟩;revert L f X;refine eY b7 ?_;intro cu L f X;refine C1 (AR Ac rfl rfl rfl rfl rfl rfl) ?_;refine eK ?_;refine eQ rfl (KO c k 45 _ _ Ag E Ab) ?_;rintro _ cv ⟨cw,⟨cx,⟨⟨⟩,⟨ao,⟨ap,M⟩⟩⟩⟩⟩;have cy:=M.size;have L:=L.fr M Ab;clear f;have X:=X.fr M Ab;refine eS [_,_,_,_] L ?_;intro cz bg bh c0;revert ao ap X;refine eF bh ?_;intro ao ap X;refine eK ?_;refine xC bg ?_;exact AX (dR Ag (fun b h=>by omega)) Ag X
 rw [AE e1];by_cases e2:(Ap c.ts σ).text=[114,101,97,100]
 . rw [AU e2];have E:=F.out _ e2 Az;refine Af func246 ntmps246 rfl rfl ?_;refine cS (eA [_,_,_,_] ?_);intro f1 f2 N b8 f3 f4;revert f X;refine eE b8 ?_;intro f X;refine eK ?_;refine cC rfl (Bg _ _ _ Ag) ?_;rintro _ c1 ⟨⟨⟩,b9⟩;revert N f X;refine eY b9 ?_;intro c2 N f X;refine C1 (AR Ac rfl rfl rfl rfl rfl rfl) ?_;refine eK ?_;refine eQ rfl (Ha c k 46 _ _ Ag E Ab) ?_;rintro _ c3 ⟨c4,⟨c5,⟨⟨⟩,⟨aq,⟨ar,O⟩⟩⟩⟩⟩;have c6:=O.size;have N:=N.fr O Ab;clear f;have X:=X.fr O Ab;refine eS [_,_,_,_] N ?_;intro c7 bi bj c8;revert aq ar X;refine eF bj ?_;intro aq ar X;refine eK ?_;refine xC bi ?_;exact AX (dR Ag (fun b h=>by omega)) Ag X
 rw [AE e2];by_cases e3:(Ap c.ts σ).text=[117,110,114,101,97,100]
 . rw [AU e3];have E:=F.out _ e3 Az;refine Af func246 ntmps246 rfl rfl ?_;refine cS (eA [_,_,_,_] ?_);intro f5 f6 U ca f7 f8;revert f X;refine eE ca ?_;intro f X;refine eK ?_;refine cC rfl (Bg _ _ _ Ag) ?_;rintro _ c9 ⟨⟨⟩,cb⟩;revert U f X;refine eY cb ?_;intro da U f X;refine C1 (AR Ac rfl rfl rfl rfl rfl rfl) ?_;refine eK ?_;refine eQ rfl (Ha c k 47 _ _ Ag E Ab) ?_;rintro _ db ⟨dc,⟨dd,⟨⟨⟩,⟨au,⟨av,V⟩⟩⟩⟩⟩;have de:=V.size;have U:=U.fr V Ab;clear f;have X:=X.fr V Ab;refine eS [_,_,_,_] U ?_;intro df bk bl dg;revert au av X;refine eF bl ?_;intro au av X;refine eK ?_;refine xC bk ?_;exact AX (dR Ag (fun b h=>by omega)) Ag X
 rw [AE e3];by_cases e4:(Ap c.ts σ).text=[119,114,105,116,101]
 . rw [AU e4];have E:=F.out _ e4 Az;refine Af func246 ntmps246 rfl rfl ?_;refine cS (eA [_,_,_,_] ?_);intro f9 ga Y cc gb gc;revert f X;refine eE cc ?_;intro f X;refine eK ?_;refine cC rfl (Bg _ _ _ Ag) ?_;rintro _ dh ⟨⟨⟩,cd⟩;revert Y f X;refine eY cd ?_;intro di Y f X;refine C1 (AR Ac rfl rfl rfl rfl rfl rfl) ?_;refine eK ?_;refine eQ rfl (Ha c k 48 _ _ Ag E Ab) ?_;rintro _ dk ⟨dl,⟨dm,⟨⟨⟩,⟨aw,⟨ax,Z⟩⟩⟩⟩⟩;have dn:=Z.size;have Y:=Y.fr Z Ab;clear f;have X:=X.fr Z Ab;refine eS [_,_,_,_] Y ?_;intro dp bm bn dq;revert aw ax X;refine eF bn ?_;intro aw ax X;refine eK ?_;refine xC bm ?_;exact AX (dR Ag (fun b h=>by omega)) Ag X
 rw [AE e4];by_cases e5:(Ap c.ts σ).text=[117,110,119,114,105,116,101]
 . rw [AU e5];have E:=F.out _ e5 Az;refine Af func246 ntmps246 rfl rfl ?_;refine cS (eA [_,_,_,_] ?_);intro gd gf aa ce gg gh;revert f X;refine eE ce ?_;intro f X;refine eK ?_;refine cC rfl (Bg _ _ _ Ag) ?_;rintro _ dr ⟨⟨⟩,cf⟩;revert aa f X;refine eY cf ?_;intro ds aa f X;refine C1 (AR Ac rfl rfl rfl rfl rfl rfl) ?_;refine eK ?_;refine eQ rfl (Ha c k 49 _ _ Ag E Ab) ?_;rintro _ dt ⟨du,⟨dv,⟨⟨⟩,⟨ay,⟨az,ab⟩⟩⟩⟩⟩;have dw:=ab.size;have aa:=aa.fr ab Ab;clear f;have X:=X.fr ab Ab;refine eS [_,_,_,_] aa ?_;intro dx bo bp dy;revert ay az X;refine eF bp ?_;intro ay az X;refine eK ?_;refine xC bo ?_;exact AX (dR Ag (fun b h=>by omega)) Ag X
 rw [AE e5];by_cases e6:(Ap c.ts σ).text=[99,97,108,108]
 . rw [AU e6];have E:=F.out _ e6 Az;refine Af func246 ntmps246 rfl rfl ?_;refine cS (eA [_,_,_,_] ?_);intro gi gj ac cg gk gl;revert f X;refine eE cg ?_;intro f X;refine eK ?_;refine cC rfl (Bg _ _ _ Ag) ?_;rintro _ dz ⟨⟨⟩,ch⟩;revert ac f X;refine eY ch ?_;intro d0 ac f X;refine C1 (AR Ac rfl rfl rfl rfl rfl rfl) ?_;refine eK ?_;refine eQ rfl (LY c k 50 _ _ Ag E Ab) ?_;rintro _ d1 ⟨d2,⟨d3,⟨⟨⟩,⟨a0,⟨a1,ad⟩⟩⟩⟩⟩;have d4:=ad.size;have ac:=ac.fr ad Ab;clear f;have X:=X.fr ad Ab;refine eS [_,_,_,_] ac ?_;intro d5 bq br d6;revert a0 a1 X;refine eF br ?_;intro a0 a1 X;refine eK ?_;refine xC bq ?_;exact AX (dR Ag (fun b h=>by omega)) Ag X
 rw [AE e6];by_cases e7:(Ap c.ts σ).text=[117,110,99,97,108,108]
 . rw [AU e7];have E:=F.out _ e7 Az;refine Af func246 ntmps246 rfl rfl ?_;refine cS (eA [_,_,_,_] ?_);intro gm gn ae ci go gp;revert f X;refine eE ci ?_;intro f X;refine eK ?_;refine cC rfl (Bg _ _ _ Ag) ?_;rintro _ d7 ⟨⟨⟩,cj⟩;revert ae f X;refine eY cj ?_;intro d8 ae f X;refine C1 (AR Ac rfl rfl rfl rfl rfl rfl) ?_;refine eK ?_;refine eQ rfl (LY c k 51 _ _ Ag E Ab) ?_;rintro _ d9 ⟨ea,⟨eb,⟨⟨⟩,⟨a2,⟨a3,af⟩⟩⟩⟩⟩;have ec:=af.size;have ae:=ae.fr af Ab;clear f;have X:=X.fr af Ab;refine eS [_,_,_,_] ae ?_;intro ed bs bt ee;revert a2 a3 X;refine eF bt ?_;intro a2 a3 X;refine eK ?_;refine xC bs ?_;exact AX (dR Ag (fun b h=>by omega)) Ag X
 rw [AE e7];by_cases e8:(Ap c.ts σ).text=[105,102]
 . rw [AU e8];have E:=F.out _ e8 Az;refine Af func246 ntmps246 rfl rfl ?_;refine cS (eA [_,_,_,_] ?_);intro gq gr ag ck gs gt;revert f X;refine eE ck ?_;intro f X;refine eK ?_;refine cC rfl (Bg _ _ _ Ag) ?_;rintro _ ef ⟨⟨⟩,cl⟩;revert ag f X;refine eY cl ?_;intro eg ag f X;refine C1 (AR Ac rfl rfl rfl rfl rfl rfl) ?_;refine eK ?_;refine eQ rfl ((IH k (bJ _)).branches 52 _ _ _ _ Ag E Az Az Ab) ?_;rintro _ eh ⟨ei,⟨ej,⟨⟨⟩,⟨a4,⟨a5,ah⟩⟩⟩⟩⟩;have ek:=ah.size;have ag:=ag.fr ah Ab;clear f;have X:=X.fr ah Ab;refine eS [_,_,_,_] ag ?_;intro el bu bv em;revert a4 a5 X;refine eF bv ?_;intro a4 a5 X;refine eK ?_;refine xC bu ?_;exact AX (dR Ag (fun b h=>by omega)) Ag X
 rw [AE e8];by_cases e9:(Ap c.ts σ).text=[102,114,111,109]
 . rw [AU e9];have E:=F.out _ e9 Az;refine Af func246 ntmps246 rfl rfl ?_;refine cS (eA [_,_,_,_] ?_);intro gu gv ai cm gw gx;revert f X;refine eE cm ?_;intro f X;refine eK ?_;refine cC rfl (Bg _ _ _ Ag) ?_;rintro _ en ⟨⟨⟩,cn⟩;revert ai f X;refine eY cn ?_;intro eo ai f X;refine C1 (AR Ac rfl rfl rfl rfl rfl rfl) ?_;refine eK ?_;refine eQ rfl ((IH k (bJ _)).branches 53 _ _ _ _ Ag E Az Az Ab) ?_;rintro _ ep ⟨eq,⟨er,⟨⟨⟩,⟨a6,⟨a7,aj⟩⟩⟩⟩⟩;have es:=aj.size;have ai:=ai.fr aj Ab;clear f;have X:=X.fr aj Ab;refine eS [_,_,_,_] ai ?_;intro et bw bx eu;revert a6 a7 X;refine eF bx ?_;intro a6 a7 X;refine eK ?_;refine xC bw ?_;exact AX (dR Ag (fun b h=>by omega)) Ag X
 rw [AE e9];by_cases bd:(Ap c.ts σ).text=[108,111,99,97,108]
 . rw [AU bd];have E:=F.out _ bd Az;refine Af func246 ntmps246 rfl rfl ?_;refine cS (eA [_,_,_,_] ?_);intro gy gz ak co g0 g1;revert f X;refine eE co ?_;intro f X;refine eK ?_;refine cC rfl (Bg _ _ _ Ag) ?_;rintro _ ew ⟨⟨⟩,cp⟩;revert ak f X;refine eY cp ?_;intro ex ak f X;refine C1 (AR Ac rfl rfl rfl rfl rfl rfl) ?_;refine eK ?_;refine eQ rfl ((IH k (bJ _)).local_ _ _ Ag E Ab) ?_;rintro _ ey ⟨ez,⟨fa,⟨⟨⟩,⟨a8,⟨a9,al⟩⟩⟩⟩⟩;have fc:=al.size;have ak:=ak.fr al Ab;clear f;have X:=X.fr al Ab;refine eS [_,_,_,_] ak ?_;intro fd bz b0 fe;revert a8 a9 X;refine eF b0 ?_;intro a8 a9 X;refine eK ?_;refine xC bz ?_;exact AX (dR Ag (fun b h=>by omega)) Ag X
 rw [AE bd];refine Af func246 ntmps246 rfl rfl ?_;refine cS (eA [_,_,_,_] ?_);intro g2 g3 am cq g4 g5;revert f X;refine eE cq ?_;intro f X;refine eK ?_;refine cC rfl (Bg _ _ _ Ag) ?_;rintro _ ff ⟨⟨⟩,cr⟩;revert am f X;refine eY cr ?_;intro fg am f X;refine C1 (AR Ac rfl rfl rfl rfl rfl rfl) ?_;refine eK ?_;refine eQ rfl (Vd c k _ _ Ag Ab) ?_;rintro _ fh ⟨fi,⟨fj,⟨⟨⟩,⟨ba,⟨bb,an⟩⟩⟩⟩⟩;have fk:=an.size;have am:=am.fr an Ab;clear f;have X:=X.fr an Ab;refine eS [_,_,_,_] am ?_;intro fl b2 b3 fm;revert ba bb X;refine eF b3 ?_;intro ba bb X;refine eK ?_;refine xC b2 ?_;exact AX (dR Ag (fun b h=>by omega)) Ag X
def JE {ts:List Tok} {σ σ':PS} (h:Le ts σ σ') (k:Lt σ σ') (e:σ'.err=0):mS ts σ'+1<=mS ts σ:=by
 have h1:=h.ok e;have f:=k e;have E:=h.wf;unfold mS;rw [AU e,AU h1];omega
def Xc (c:PC) (k:Nat) (IH : ∀j,j<=k->StmtsC c j) (σ:PS) (w:wD) (hP:PP c σ w) (hk:4*mS c.ts σ+8<=k+1) :
 Calls prog 213 #[.pointer (some ⟨c.pb,0,none⟩)] w (TreeR c w (Ct c.ts c.n (k+1) σ)):=by
 have X:=eG (· = c.pb) w;have hpb:=hP.pbB;have hB:=hP.B;have hlen:=hP.len;rw [Ct]
 (try dsimp only)
 have l1:=Aq (n:=c.n) (t:=[123]) hP.at_ Az;have m1:=BC l1;have hmt:mS c.ts σ<=c.ts.length:=by unfold mS;split<;>omega
 refine Af func213 ntmps213 rfl rfl ?_;refine cS (eA [_,_,_,_] ?_);intro b1 w2 h5 x6 p7 z8;revert hP X;refine eE x6 ?_;intro hP X;refine cN (C1 (xB [_,_,_,_]) (xA [_,_,_,_] ?_));intro b9 av M;refine eI [_,_,_,_] M ?_;intro aw u N ax ay;revert h5 hP X;refine eE N ?_;intro h5 hP X;refine eK ?_;refine cC rfl (BU _ _ _ _ Ag Az) ?_;rintro _ O ⟨⟨⟩,⟨Q,z⟩⟩;revert u h5;refine eZ z ?_;intro az u h5;clear hP;have X:=X.fr z Ab;refine cT (Aj (Ar ?_));generalize AA c.ts c.n σ [123]=ρ at *;refine AJ (ι:=Nat×List Nd×oA×Nat×PS) (fun _=>[(0,.pointer (some ⟨c.pb,0,none⟩)),(2,.pointer (some ⟨b1,0,none⟩)),(3,.pointer (some ⟨b9,0,none⟩))])
  (fun x w'=>PP c x.2.2.2.2 w'/\Blk w' b9 [.int .u8 57,.int .i64 0,str [],.slice x.2.2.1 x.2.1.length x.2.2.2.1]/\OwnL ndShape w' (b9+1) 32 (.slice x.2.2.1 x.2.1.length x.2.2.2.1) x.2.1 /\
   Blk w' b1 [.int .u8 0,.int .i64 0,.string ⟨#[]⟩,.slice none 0 0]/\Fr (· = c.pb) w w'/\O.heap.size<=w'.heap.size /\
   CA c.ts c.n k [] ρ=CA c.ts c.n x.1 x.2.1 x.2.2.2.2/\(x.2.2.2.2.err=0->4*mS c.ts x.2.2.2.2+7<=x.1)/\1<=x.1/\x.1<=k/\(x.2.2.2.2.err=0->x.2.1.length+mS c.ts x.2.2.2.2<=1000001)) (fun x=>x.1) (k,[],none,0,ρ) sB
  ⟨Q,u,OwnL.nil,h5,X,bJ _,rfl,fun _=>by simp only;omega,by simp only;omega,bJ _,fun _=>by simp only [aX];omega⟩ ?_
 rintro ⟨j,acc,a,cap,σ'⟩ w1 ⟨hP,hbn,hown,hbr,X,hz,he,hfj,R,hjk,hacc⟩;simp only at hP hbn hown he hfj R hjk hacc;rw [he];obtain ⟨j,rfl⟩ : ∃i,j=i+1:=⟨j-1,Ab⟩
 have hob : ∀g,(cP a acc.length cap).ownBlock=some g->g<w1.heap.size:=fun g h=>hown.lt h
 by_cases h0:σ'.err=0
 case neg=>
  rw [show CA c.ts c.n (j+1) acc σ'=(acc,σ') from by rw [CA];simp [h0]];refine Aj (cS (C1 Mv (C1 Pn (C1 Pf (C1 (Pl (PP.blk hP)) ?_)))));refine eK ?_;refine eS [_,_,_,_] hbr ?_;intro a0 S T a1;clear hbr;revert hP hbn hown X;refine eF T ?_;intro hP hbn hown X;refine eK ?_;refine xC S ?_;exact AX (Jp (hown.sits (fun b h=>by omega))) Ag X
 cases hc:B7 c.ts σ' [125]
 case true=>
  rw [show CA c.ts c.n (j+1) acc σ'=(acc,Ao σ') from by rw [CA];simp [h0,hc]];refine Aj (cS (C1 Mv (C1 Pn (C1 Pf (C1 (Pl (PP.blk hP)) ?_)))));refine eK ?_;refine cC rfl (Cf _ _ _ _ Ag Az Ag) ?_;rintro _ a2 ⟨⟨⟩,⟨A,C⟩⟩;have a3:=C.size;clear hP;revert hbn hown hbr X;refine eF C ?_;intro hbn hown hbr X;refine eK ?_;refine eS [_,_,_,_] hbr ?_;intro a4 U V a5;clear hbr;revert A hbn hown X;refine eF V ?_;intro A hbn hown X;refine eK ?_;refine xC U ?_;exact AX (Jp (hown.sits (fun b h=>by omega))) Ag X
 rw [show CA c.ts c.n (j+1) acc σ'=CA c.ts c.n j (acc++[(Bt c.ts c.n j σ').1]) (AA c.ts c.n (Bt c.ts c.n j σ').2 [59]) from by rw [CA];simp [h0,hc]];have l1:=(DR (ts:=c.ts) (n:=c.n) j).1 σ' hP.at_;have l2:=Aq (n:=c.n) (t:=[59]) l1.wf Az;have hlt:Lt σ' (AA c.ts c.n (Bt c.ts c.n j σ').2 [59]):=Lt.of_le l1 DG;have hdrop:=JE (l1.trans l2) hlt;have hmv:=Sq (l1.trans l2) hlt;have W:=hacc h0;have ab:=hfj h0;refine Aj (cS (C1 Mv (C1 Pn (C1 Pf (C1 (Pl (PP.blk hP)) ?_)))));refine eK ?_;refine cC rfl (BS _ _ _ _ Ag Az Ag) ?_;rintro _ D ⟨⟨⟩,⟨v,E⟩⟩;have a6:=E.size;clear hP;revert hbn hown hbr X;refine eF E ?_;intro hbn hown hbr X;refine eK ?_;refine AC (fun wz=>Fr (· = c.pb) D wz) 5 (.pure 0 (.pure 1 (.pure 2 (.fork 3 (.fork 4 .tail .none) .none)))) mixed Bl (Aa (Al (Aa (Al (Aa An))))) ?_;intro Y F _;have d:(fun wz=>Fr (· = c.pb) D wz) Y:=eJ F;simp only at d;have Z:=v;have y:=hbn;have L:=hown;have aa:=hbr;revert v hbn hown hbr X;refine eY F ?_;intro a7 v hbn hown hbr X;refine ⟨d,?_⟩;refine Tq rfl Pf (Tq rfl (Ax Ac rfl rfl rfl (fun wz hz=>dP (dQ y hz Ab) rfl)) (Tq rfl Mv ?_));refine tC rfl rfl ((IH j Ab).stmt _ _ Ag Ab) ?_;rintro _ ac ⟨a8,⟨ad,⟨⟨⟩,⟨q,⟨f,o⟩⟩⟩⟩⟩;have ae:=o.size;have d:=d.fr o Ab;revert hbn hown hbr X;refine eF o ?_;intro hbn hown hbr X;refine ⟨d,?_⟩;refine A1 rfl (xS [_,_,_,_]) rfl ?_ aFh A7;rintro _ af ⟨ag,rfl,l,ah⟩
 have ai:=l.blk;have G:=l.ext;have aj:=l.pos;have ak:=l.size;revert q f d hbn hown hbr X;refine eE G ?_;intro q f d hbn hown hbr X;refine ⟨d,?_⟩;refine AF rfl (BN (sh:=ndShape) Ac CM rfl rfl rfl rfl Bl rfl rfl rfl hown (eC Ag) ⟨_,_,rfl,dR Ag (fun b h=>⟨Ab,fun e=>by have:=hob _ e;omega⟩)⟩ Ab Ab rfl ?_);rintro al I am m p;have an:=p.size;revert f hbn;refine eF p ?_;intro f hbn;clear hown;revert hbr X;refine eF p ?_;intro hbr X;refine C1 Pf (eV [_] [_,_,_,_] hbn ?_);intro ao r J ap;clear hbn;revert m f hbr X;refine eF J ?_;intro m f hbr X;refine eK ?_;refine cC rfl (BU _ _ _ _ Ag Az) ?_;rintro _ aq ⟨⟨⟩,⟨ar,s⟩⟩;revert r m;refine eZ s ?_;intro au r m;revert hbr X;refine eF s ?_;intro hbr X;refine Ah (Ae ?_);refine Aw (j,acc++[(Bt c.ts c.n j σ').1],some ⟨_,0,none⟩,_,AA c.ts c.n (Bt c.ts c.n j σ').2 [59]) sB ⟨Ag,Ag,Ag,Ag,X,Ab,rfl,fun e=>by have:=hdrop e;simp only;omega,by simp only;omega,by simp only;omega,fun e=>?_⟩ Bd;have:=hdrop e;simp only [aU,aV,aX];omega
def Xd (c:PC) (k:Nat):StmtsC c k:=by
 induction k using Nat.strongRecOn with
 | _ k E=>
  cases k with
  | zero=>exact ⟨fun _ _ _ h=>by omega,fun _ _ _ _ _ _ _ _ _ h=>by omega,fun _ _ _ _ h=>by omega,fun _ _ _ h=>by omega⟩
  | succ k=>
   have f : ∀j,j<=k->StmtsC c j:=fun j F=>E j Ab
   exact ⟨YJ c k f,Ri c k f,Xb c k f,Xc c k f⟩
def MR (l:List Nd) (x:Nd):AT (l++[x])=max (AT l) x.depth:=by
 induction l with
 | nil=>simp only [List.nil_append,AT];omega
 | cons y r f=>simp only [List.cons_append,AT,f];omega
mutual
def LZ : ∀t:Nd,1<=t.depth/\t.depth<=t.size
 | .mk _ _ _ l=>by
  have:=Ev l;simp only [Nd.depth,dL];omega
def Ev : ∀l:List Nd,0<=AT l/\AT l<=Am l
 | []=>by simp [AT,Am]
 | t::r=>by
  have h1:=LZ t;have h2:=Ev r;simp only [AT,Am];omega
end
def Hb (l:List Nd) (x:Nd):Am (l++[x])=Am l+x.size:=by
 induction l with
 | nil=>simp [Am]
 | cons y r f=>simp only [List.cons_append,Am,f];omega
def Fw (l:List Nd) (j:Nat):Am (l.take j)<=Am l:=by
 induction l generalizing j with
 | nil=>simp
 | cons x r f=>
  cases j with
  | zero=>simp [Am]
  | succ j=>simp only [dE,Am];have:=f j;omega
def H5 (l:List Nd):l.length<=Am l:=by
 induction l with
 | nil=>simp [Am]
 | cons x r f=>have:=Nd.size_pos x;simp only [Am,aV];omega
def Ow (N:Nat) : ∀(t:Nd) (S:nP) (a:oA) (c:Nat) (w:wD),t.size<N->t.size<=1000000000->t.sits S w a ->
 Calls prog 247 #[t.val a c] w fun e w'=>e = .returned (.int .i64 t.depth)/\Ext w w':=by
 induction N with
 | zero=>intro t S a c w h;omega
 | succ N ih=>
  rintro ⟨k,n,s,l⟩ S a c w hN hM f;have IH:=bA ih;clear ih;simp only [Nd.sits] at f;simp only [dL] at hN hM;have X:=dI w;have hl:=H5 l;rw [show (Nd.mk k n s l).depth=AT l+1 from by simp only [Nd.depth]];refine Af func247 ntmps247 rfl rfl ?_;refine cS (eB [_,_,_,_] ?_);intro b1 w2 h4 x5 p6 z7;revert f X;refine eE x5 ?_;intro f X;refine C1 Pa (cN (C1 Pa (cT (Aj (cS (C1 Pf (C1 (Pl h4) (C1 Pz (C1 Mv (cT (Ar ?_)))))))))));refine AJ (ι:=Nat) (fun j=>[(9,.int .i64 j),(8,.int .i64 l.length),(7,.slice a l.length c),(3,.int .i64 (AT (l.take j)))]) (fun j w'=>rowSits S w' l a/\Ext w w'/\j<=l.length) (fun j=>l.length-j) 0 sB ⟨f,X,bI _⟩ ?_;rintro j w1 ⟨f,X,hj⟩;by_cases E:j<l.length
  . obtain ⟨kb,ko,rfl,ad,F⟩:=Ba f (by intro e;subst e;simp at E);obtain ⟨xa,xc,M,O⟩:=F j l[j] (aY E);have ae:=Dz (bD E);have ht:l.take (j+1)=l.take j++[l[j]]:=by rw [List.take_add_one,aY E];rfl
    have U:=Ev (l.take j);have af:=Fw l j;have V:=Fw l (j+1);have ag:=LZ l[j];rw [ht,Hb] at V;clear F;generalize l[j]=x at *;refine eK ?_;refine xA [_,_,_,_] ?_;intro ah ai Y;refine eI [_,_,_,_] Y ?_;intro aj L Z ak al;revert X f M O;refine eE Z ?_;intro X f M O;refine eK ?_;refine cC rfl (IH.out _ S _ _ _ Ab Ab Ag) ?_;rintro _ ab ⟨⟨⟩,aa⟩;revert L X f M O;refine eY aa ?_;intro ac L X f M O;refine C1 (WB rfl rfl rfl) (C1 Pa (Ah (Ae (Ai (Ad (C1 V7 (C1 Mv (Ah ?_))))))));refine Aw (j+1) ?_ ⟨f,X,Ab⟩ Ab;refine Ak rfl (Ak rfl (Ak rfl (AW rfl ?_ AY)));rw [ht,MR]
  . have:j=l.length:=by omega
    subst this;have U:=Ev l;rw [bH];refine eK ?_;refine xR ?_;exact ⟨rfl,X⟩
def Ve (N:Nat) : ∀(t:Nd) (S:nP) (a:oA) (c:Nat) (w:wD),t.size<N->t.size<=1000000000->t.sits S w a ->
 Calls prog 248 #[t.val a c] w fun e w'=>e = .returned (.int .i64 t.size)/\Ext w w':=by
 induction N with
 | zero=>intro t S a c w h;omega
 | succ N ih=>
  rintro ⟨k,n,s,l⟩ S a c w hN hM f;have IH:=bA ih;clear ih;simp only [Nd.sits] at f;simp only [dL] at hN hM;have X:=dI w;have hl:=H5 l;rw [show ((Nd.mk k n s l).size:Int)=((Am l:Nat):Int)+1 from by simp only [dL];omega];refine Af func248 ntmps248 rfl rfl ?_;refine cS (eB [_,_,_,_] ?_);intro b1 w2 h4 x5 p6 z7;revert f X;refine eE x5 ?_;intro f X;refine C1 Pa (cN (C1 Pa (cT (Aj (cS (C1 Pf (C1 (Pl h4) (C1 Pz (C1 Mv (cT (Ar ?_)))))))))));refine AJ (ι:=Nat) (fun j=>[(9,.int .i64 j),(8,.int .i64 l.length),(7,.slice a l.length c),(3,.int .i64 (((Am (l.take j):Nat):Int)+1))]) (fun j w'=>rowSits S w' l a/\Ext w w'/\j<=l.length) (fun j=>l.length-j) 0 sB ⟨f,X,bI _⟩ ?_;rintro j w1 ⟨f,X,hj⟩;by_cases E:j<l.length
  . obtain ⟨kb,ko,rfl,ad,F⟩:=Ba f (by intro e;subst e;simp at E);obtain ⟨xa,xc,M,O⟩:=F j l[j] (aY E);have ae:=Dz (bD E);have ht:l.take (j+1)=l.take j++[l[j]]:=by rw [List.take_add_one,aY E];rfl
    have U:=Ev (l.take j);have af:=Fw l j;have V:=Fw l (j+1);have ag:=LZ l[j];rw [ht,Hb] at V;clear F;generalize l[j]=x at *;refine eK ?_;refine xA [_,_,_,_] ?_;intro ah ai Y;refine eI [_,_,_,_] Y ?_;intro aj L Z ak al;revert X f M O;refine eE Z ?_;intro X f M O;refine eK ?_;refine cC rfl (IH.out _ S _ _ _ Ab Ab Ag) ?_;rintro _ ab ⟨⟨⟩,aa⟩;revert L X f M O;refine eY aa ?_;intro ac L X f M O;refine C1 V7 (C1 Pa (Ah (Ae (Ai (Ad (C1 V7 (C1 Mv (Ah ?_))))))));refine Aw (j+1) ?_ ⟨f,X,Ab⟩ Ab;refine Ak rfl (Ak rfl (Ak rfl (AW rfl ?_ AY)));rw [ht,Hb];congr 1;omega
  . have:j=l.length:=by omega
    subst this;have U:=Ev l;rw [bH];refine eK ?_;refine xR ?_;exact ⟨rfl,X⟩
section
variable {ts:List Tok} {n:Int}
def C0 (σ:PS):(Ao σ).at_=σ.at_+1:=rfl
def Nq (k:Nat):(∀lv σ,σ.at_<=ts.length->(Bx ts n k lv σ).1.size+8*σ.at_<=8*(Bx ts n k lv σ).2.at_+1)/\(∀lv x σ,σ.at_<=ts.length->(BW ts n k lv x σ).1.size+8*σ.at_<=8*(BW ts n k lv x σ).2.at_+x.size) /\
 (∀ σ,σ.at_<=ts.length->(Bj ts n k σ).1.size+8*σ.at_<=8*(Bj ts n k σ).2.at_+1)/\(∀ σ,σ.at_<=ts.length->(Bp ts n k σ).1.size+8*σ.at_<=8*(Bp ts n k σ).2.at_+1) /\
 (∀ σ,σ.at_<=ts.length->(BF ts n k σ).1.size+8*σ.at_<=8*(BF ts n k σ).2.at_+1):=by
 induction k with
 | zero=>
  refine ⟨fun lv σ h=>?_,fun lv x σ h=>?_,fun σ h=>?_,fun σ h=>?_,fun σ h=>?_⟩
  . rw [Bx];simp [dL,Am];omega
  . rw [BW];simp;omega
  . rw [Bj];simp [dL,Am];omega
  . rw [Bp];simp [dL,Am];omega
  . rw [BF];simp [dL,Am];omega
 | succ k Z=>
  obtain ⟨N,X,O,iP,iL⟩:=Z;obtain ⟨M,lC,lU,lP,lL⟩:=EL (ts:=ts) (n:=n) k;refine ⟨fun lv σ h=>?_,fun lv x σ h=>?_,fun σ h=>?_,fun σ h=>?_,fun σ h=>?_⟩
  . rw [Bx];have h1:=O σ h;have F:=X lv (Bj ts n k σ).1 (Bj ts n k σ).2 (lU σ h).1.wf;omega
  . rw [BW];split
    . simp;omega
    . rename_i op U;obtain ⟨V,-⟩:=FP U;have f:=AB (B2 h (bC V));split
      . simp;omega
      . have h1:=N (B3 op+1) (Ao σ) f.wf;have F:=X lv (.mk op 0 [] [x,(Bx ts n k (B3 op+1) (Ao σ)).1]) (Bx ts n k (B3 op+1) (Ao σ)).2 (M (B3 op+1) (Ao σ) f.wf).1.wf;have L:=(M (B3 op+1) (Ao σ) f.wf).1.le;rw [C0] at h1 L;simp only [dL,Am] at F;omega
  . rw [Bj];split
    . rename_i E;have f:=AB (AN h E Az);have h1:=O (Ao σ) f.wf;rw [C0] at h1;simp only [dL,Am];omega
    . split
      . rename_i E;have f:=AB (AN h E Az);have h1:=O (Ao σ) f.wf;rw [C0] at h1;simp only [dL,Am];omega
      . exact iP σ h
  . rw [Bp];split
    . have:=(FA (n:=n) (a:=0) (b:=9223372036854775807) h).le;simp only [dL,Am];omega
    . split
      . rename_i E;have h1:=AB (AN h E Az);have F:=h1.trans (Aq (n:=n) (t:=[40]) h1.wf Az);have L:=F.trans (AM (n:=n) F.wf);have h4:=(L.trans (Aq (n:=n) (t:=[41]) L.wf Az)).le;simp only [dL,Am];omega
      . split
        . rename_i E;have h1:=AB (AN h E Az);have F:=h1.trans (Aq (n:=n) (t:=[40]) h1.wf Az);have L:=F.trans (AM (n:=n) F.wf);have h4:=(L.trans (Aq (n:=n) (t:=[41]) L.wf Az)).le;simp only [dL,Am];omega
        . split
          . rename_i E;have f:=AB (AN h E Az);have h1:=N 1 (Ao σ) f.wf;have F:=(Aq (n:=n) (t:=[41]) (M 1 (Ao σ) f.wf).1.wf Az).le;rw [C0] at h1;simp only;omega
          . exact iL σ h
  . rw [BF];have Y:=AM (n:=n) h;have aa:=Y.le;split
    . rename_i E;have f:=AB (AN Y.wf E Az);have h1:=N 1 (Ao (A4 ts n σ).2) f.wf;have F:=(Aq (n:=n) (t:=[93]) (M 1 _ f.wf).1.wf Az).le;rw [C0] at h1;simp only [dL,Am];omega
    . simp only [dL,Am];omega
def H6 (l m:List Nd):Am (l++m)=Am l+Am m:=by
 induction l with
 | nil=>simp [Am]
 | cons x r f=>simp only [List.cons_append,Am,f];omega
def PX (σ:PS):(DB ts n σ).1.size=1:=rfl
def Nr : ∀(k:Nat) (acc:List Nd) (σ:PS),σ.at_<=ts.length->Am (Cx ts n k acc σ).1+8*σ.at_<=8*(Cx ts n k acc σ).2.at_+Am acc
 | 0,acc,σ,h=>by rw [Cx];simp;omega
 | k+1,acc,σ,h=>by
  rw [Cx];split
  . rename_i L;have h1:=AB (AN h L Az);generalize M:(if acc.length=8/\A9 (Ap ts (Ao σ)).text=true then Bw (Ao σ) (Ap ts (Ao σ)).pos 5 else Ao σ)=ρ;have f:Le ts (Ao σ) ρ:=by
     rw [<-M];split
     . exact BZ h1.wf _ _
     . exact eU h1.wf
    have E:=AM (n:=n) f.wf;have F:=Nr k (acc++[(DB ts n ρ).1]) (DB ts n ρ).2 E.wf;rw [H6] at F;have O:(DB ts n ρ).2.at_>=σ.at_+1:=by
     have N:=f.le;have U:=E.le;rw [C0] at N;show (A4 ts n ρ).2.at_>=σ.at_+1;omega
    simp only [Am,PX] at F;omega
  . simp;omega
def Ns {k:Nat} {kind:Int} {σ:PS} (E:In ts σ):(Fq ts n k kind σ).1.size+8*σ.at_<=8*(Fq ts n k kind σ).2.at_+1:=by
 unfold Fq;dsimp only;have h1:=AB E;have f:=h1.trans (AM (n:=n) h1.wf);have F:=f.trans (Aq (n:=n) (t:=[40]) f.wf Az);have L:=(AM (n:=n) h1.wf).le;have U:=(Aq (n:=n) (t:=[40]) f.wf Az).le;rw [C0] at L;split
 . have:=C0 (AA ts n (A4 ts n (Ao σ)).2 [40]);simp only [dL,Am];omega
 . have h:=AM (n:=n) F.wf;have M:=h.le;have N:=Nr (ts:=ts) (n:=n) k [(DB ts n (AA ts n (A4 ts n (Ao σ)).2 [40])).1] (DB ts n (AA ts n (A4 ts n (Ao σ)).2 [40])).2 h.wf;have O:=Ov (n:=n) k [(DB ts n (AA ts n (A4 ts n (Ao σ)).2 [40])).1] (DB ts n (AA ts n (A4 ts n (Ao σ)).2 [40])).2 h.wf;have V:=(Aq (n:=n) (t:=[41]) O.wf Az).le;have X:(DB ts n (AA ts n (A4 ts n (Ao σ)).2 [40])).2.at_>=(AA ts n (A4 ts n (Ao σ)).2 [40]).at_:=M;simp only [Am,PX] at N;simp only [dL];omega
def Hc {k:Nat} {σ:PS} (h:σ.at_<=ts.length):(BF ts n k σ).1.size+8*σ.at_<=8*(BF ts n k σ).2.at_+1:=(Nq k).2.2.2.2 σ h
def FT {k:Nat} {lv:Int} {σ:PS} (h:σ.at_<=ts.length):(Bx ts n k lv σ).1.size+8*σ.at_<=8*(Bx ts n k lv σ).2.at_+1:=(Nq k).1 lv σ h
def PY {k:Nat} {σ:PS} (h:σ.at_<=ts.length):(Dt ts n k σ).1.size+8*σ.at_<=8*(Dt ts n k σ).2.at_+1:=by
 unfold Dt;dsimp only;have h1:=Hc (n:=n) (k:=k) h;have f:=FR (n:=n) (k:=k) h;split
 . rename_i E;have F:=AB (AN f.wf E Az);have L:=Hc (n:=n) (k:=k) F.wf;rw [C0] at L;simp only [dL,Am];omega
 . split
   . have:=(Gz (n:=n) f.wf).le;have:=f.le;simp only [dL,Am];omega
   . rename_i E;have F:=AB (B2 f.wf (bC (LX E)));have L:=FT (n:=n) (k:=k) (lv:=1) F.wf;rw [C0] at L;simp only [dL,Am];omega
def L0 {k:Nat} {kind:Int} {σ:PS} (h:In ts σ):(Fo ts n k kind σ).1.size+8*σ.at_<=8*(Fo ts n k kind σ).2.at_+1:=by
 unfold Fo;dsimp only;have h1:=AB h;have E:=Hc (n:=n) (k:=k) h1.wf;have F:=FR (n:=n) (k:=k) h1.wf;have f:=Aq (n:=n) (t:=[44]) F.wf Az;have M:=(AM (n:=n) f.wf).le;have L:=f.le;rw [C0] at E;simp only [dL,Am];omega
def IA {k:Nat} {kind:Int} {σ:PS} (f:In ts σ):(F4 ts n k kind σ).1.size+8*σ.at_<=8*(F4 ts n k kind σ).2.at_+1:=by
 unfold F4;have h1:=AB f;have h:=Hc (n:=n) (k:=k) h1.wf;rw [C0] at h;simp only [dL,Am];omega
def TH (k:Nat):(∀ σ,σ.at_<=ts.length->(Bt ts n k σ).1.size+8*σ.at_<=8*(Bt ts n k σ).2.at_+1)/\(∀kind F E σ,In ts σ->F≠[]->E≠[]->(BK ts n k kind F E σ).1.size+8*σ.at_<=8*(BK ts n k kind F E σ).2.at_+1)/\(∀ σ,In ts σ->(Du ts n k σ).1.size+8*σ.at_<=8*(Du ts n k σ).2.at_+1) /\
 (∀ σ,σ.at_<=ts.length->(Ct ts n k σ).1.size+8*σ.at_<=8*(Ct ts n k σ).2.at_+2)/\(∀acc σ,σ.at_<=ts.length->Am (CA ts n k acc σ).1+8*σ.at_<=8*(CA ts n k acc σ).2.at_+Am acc+(if σ.err=0 then 1 else 0)):=by
 induction k with
 | zero=>
  refine ⟨fun σ h=>?_,fun kind F E σ h _ _=>?_,fun σ h=>?_,fun σ h=>?_,fun acc σ h=>?_⟩
  . rw [Bt];simp [dL,Am];omega
  . rw [BK];simp [dL,Am];omega
  . rw [Du];simp [dL,Am];omega
  . rw [Ct];simp [dL,Am];omega
  . rw [CA];simp only;split<;>omega
 | succ k ih=>
  obtain ⟨iS,iB,iL,Y,iT⟩:=ih;obtain ⟨lS,lB,lL,lK,lT⟩:=DR (ts:=ts) (n:=n) k;refine ⟨fun σ h=>?_,fun kind F E σ hn V O=>?_,fun σ hn=>?_,fun σ h=>?_,fun acc σ h=>?_⟩
  . have f : ∀t:List UInt8,(Ap ts σ).text=t->t≠[]->In ts σ:=fun t e ht=>B2 h (bC (by rw [e];exact ht))
    rw [Bt]
    by_cases e:(Ap ts σ).text=[112,117,115,104]
    . rw [AU e];exact L0 (f _ e Az)
    rw [AE e];clear e
    by_cases e:(Ap ts σ).text=[112,111,112]
    . rw [AU e];exact L0 (f _ e Az)
    rw [AE e];clear e
    by_cases e:(Ap ts σ).text=[114,101,97,100]
    . rw [AU e];exact IA (f _ e Az)
    rw [AE e];clear e
    by_cases e:(Ap ts σ).text=[117,110,114,101,97,100]
    . rw [AU e];exact IA (f _ e Az)
    rw [AE e];clear e
    by_cases e:(Ap ts σ).text=[119,114,105,116,101]
    . rw [AU e];exact IA (f _ e Az)
    rw [AE e];clear e
    by_cases e:(Ap ts σ).text=[117,110,119,114,105,116,101]
    . rw [AU e];exact IA (f _ e Az)
    rw [AE e];clear e
    by_cases e:(Ap ts σ).text=[99,97,108,108]
    . rw [AU e];exact Ns (f _ e Az)
    rw [AE e];clear e
    by_cases e:(Ap ts σ).text=[117,110,99,97,108,108]
    . rw [AU e];exact Ns (f _ e Az)
    rw [AE e];clear e
    by_cases e:(Ap ts σ).text=[105,102]
    . rw [AU e];exact iB _ _ _ σ (f _ e Az) Az Az
    rw [AE e];clear e
    by_cases e:(Ap ts σ).text=[102,114,111,109]
    . rw [AU e];exact iB _ _ _ σ (f _ e Az) Az Az
    rw [AE e];clear e
    by_cases e:(Ap ts σ).text=[108,111,99,97,108]
    . rw [AU e];exact iL σ (f _ e Az)
    rw [AE e];clear e
    exact PY h
  . rw [BK]
    (try dsimp only);have L:=AB hn;have Z:=FT (n:=n) (k:=k) (lv:=1) L.wf;have M:=Dx (n:=n) (k:=k) (lv:=1) L.wf;have s3:=Y _ M.wf;have N:=lK _ M.wf;have U:=Aq (n:=n) N.wf V;have s5:=Y _ U.wf;have l5:=lK _ U.wf;have X:=Aq (n:=n) l5.wf O;have s7:=FT (n:=n) (k:=k) (lv:=1) X.wf;have e4:=U.le;have e6:=X.le;rw [C0] at Z
    simp only [dL,Am];omega
  . rw [Du]
    (try dsimp only);have L:=AB hn
    split
    . rename_i hh
      have M:=AB (AN L.wf hh Az);have N:=AM (n:=n) M.wf;have s4:=Y _ N.wf;have e3:=N.le;rw [C0,C0] at e3
      simp only [dL,Am];omega
    . have M:=AM (n:=n) L.wf
      have N:=Aq (n:=n) (t:=[61]) M.wf Az;have s4:=FT (n:=n) (k:=k) (lv:=1) N.wf;have U:=Dx (n:=n) (k:=k) (lv:=1) N.wf;have s5:=Y _ U.wf;have l5:=lK _ U.wf;have X:=Aq (n:=n) (t:=[100,101,108,111,99,97,108]) l5.wf Az;have s7:=FT (n:=n) (k:=k) (lv:=1) X.wf;have e2:=M.le;have e3:=N.le;have e6:=X.le;rw [C0] at e2
      simp only [dL,Am];omega
  . rw [Ct]
    (try dsimp only);have L:=Aq (n:=n) (t:=[123]) h Az;have Z:=iT [] _ L.wf;have e1:=L.le;simp only [Am] at Z;simp only [dL]
    split at Z<;>omega
  . rw [CA]
    split
    . simp only;(try split)<;>omega
    . rename_i he
      have h0:σ.err=0:=Decidable.byContradiction he
      split
      . rename_i hh
        have:=C0 σ
        simp only;(try split)<;>omega
      . have s1:=iS σ h
        have L:=lS σ h;have M:=Aq (n:=n) (t:=[59]) L.wf Az;have s3:=iT (acc++[(Bt ts n k σ).1]) _ M.wf;rw [H6] at s3;simp only [Am] at s3;have e2:=M.le
        have e3:(AA ts n (Bt ts n k σ).2 [59]).err=0->(Bt ts n k σ).2.at_+1<=(AA ts n (Bt ts n k σ).2 [59]).at_:=fun e=>DG (n:=n) e
        (try rw [AU h0])
        split at s3
        . rename_i e;have:=e3 e;omega
        . omega
def Rj {k:Nat} {σ:PS} (h:σ.at_<=ts.length):(Ct ts n k σ).1.size<=8*ts.length+2:=by
 have h1:=(TH (ts:=ts) (n:=n) k).2.2.2.1 σ h;have f:=((DR (ts:=ts) (n:=n) k).2.2.2.1 σ h).wf;omega
end
def Xe (c:PC) (σ:PS) (t:Nd) (S:nP) (a:oA) (k:Nat) (off:Int) (w:wD) (f:PP c σ w) (hz:t.size<=1000000000) (h:t.sits S w a) :
 Calls prog 214 #[.pointer (some ⟨c.pb,0,none⟩),t.val a k,.int .i64 off] w fun r w'=>r = .returned (.tuple #[])/\PP c (D8 t off σ) w'/\Fr (· = c.pb) w w':=by
 have X:=eG (· = c.pb) w;have an:=f.pbB;have hB:=f.B;by_cases U:σ.err=0
 . by_cases Y:80<t.depth
   . rw [show D8 t off σ=Bw σ off 19 from by simp [D8,U,Y]];refine Af func214 ntmps214 rfl rfl ?_;refine cS (eB [_,_,_,_] ?_);intro b1 w2 V x5 p6 z7;revert f h X;refine eE x5 ?_;intro f h X;refine cT (Ar (cS (C1 Mv (C1 Pn (C1 Pf (C1 (Pl (PP.blk f)) ?_))))));refine eK ?_;refine cC rfl (Ow _ _ _ _ _ _ (Nat.lt_succ_self _) Ab Ag) ?_;rintro _ w9 ⟨⟨⟩,x8⟩;revert V f h X;refine eY x8 ?_;intro ao V f h X;refine eK ?_;refine cC rfl (FQ _ _ _ _ _ Ag) ?_;rintro _ ap ⟨⟨⟩,⟨aq,M⟩⟩;have ar:=M.size;have V:=V.fr M Ab;clear f h;have X:=X.fr M Ab;refine Ah (Ae (Bn rfl ?_));exact ⟨rfl,Ag,X⟩
   . by_cases h2:2000<t.size
     . rw [show D8 t off σ=Bw σ off 5 from by simp [D8,U,Y,h2]];refine Af func214 ntmps214 rfl rfl ?_;refine cS (eB [_,_,_,_] ?_);intro au av E Z aw ax;revert f h X;refine eE Z ?_;intro f h X;refine cT (Ar (cS (C1 Mv (C1 Pn (C1 Pf (C1 (Pl (PP.blk f)) ?_))))));refine eK ?_;refine cC rfl (Ow _ _ _ _ _ _ (Nat.lt_succ_self _) Ab Ag) ?_;rintro _ ay ⟨⟨⟩,aa⟩;revert E f h X;refine eY aa ?_;intro ae E f h X;refine eK ?_;refine cC rfl (Ve _ _ _ _ _ _ (Nat.lt_succ_self _) Ab Ag) ?_;rintro _ af ⟨⟨⟩,N⟩;revert E f h X;refine eY N ?_;intro ag E f h X;refine eK ?_;refine cC rfl (FQ _ _ _ _ _ Ag) ?_;rintro _ ah ⟨⟨⟩,⟨ai,F⟩⟩;have aj:=F.size;have E:=E.fr F Ab;clear f h;have X:=X.fr F Ab;refine Ah (Ae (Bn rfl ?_));exact ⟨rfl,Ag,X⟩
     . rw [show D8 t off σ=σ from by simp [D8,U,Y,h2]];refine Af func214 ntmps214 rfl rfl ?_;refine cS (eB [_,_,_,_] ?_);intro az a0 L ab a1 a2;revert f h X;refine eE ab ?_;intro f h X;refine cT (Ar (cS (C1 Mv (C1 Pn (C1 Pf (C1 (Pl (PP.blk f)) ?_))))));refine eK ?_;refine cC rfl (Ow _ _ _ _ _ _ (Nat.lt_succ_self _) Ab Ag) ?_;rintro _ a3 ⟨⟨⟩,ac⟩;revert L f h X;refine eY ac ?_;intro ak L f h X;refine eK ?_;refine cC rfl (Ve _ _ _ _ _ _ (Nat.lt_succ_self _) Ab Ag) ?_;rintro _ al ⟨⟨⟩,O⟩;revert L f h X;refine eY O ?_;intro am L f h X;refine C1 V5 (C1 Pa (cT (C9 (As (Ae (Bn rfl ?_))))));exact ⟨rfl,Ag,X⟩
 . rw [show D8 t off σ=σ from by simp [D8,U]];refine Af func214 ntmps214 rfl rfl ?_;refine cS (eB [_,_,_,_] ?_);intro a4 a5 a6 ad a7 a8;revert f h X;refine eE ad ?_;intro f h X;refine cT (Ar (cS (C1 Mv (C1 Pn (C1 Pf (C1 (Pl (PP.blk f)) (C1 V2 (C1 Pa (cT (OX (As ?_)))))))))));refine Ae (Bn rfl ?_);exact ⟨rfl,Ag,X⟩
def Rk (c:PC) (k:Nat) (σ:PS) (w:wD) (E:PP c σ w) (hk:4*mS c.ts σ+8<=k) :
 Calls prog 167 #[.pointer (some ⟨c.pb,0,none⟩)] w (TreeR c w (EQ c.ts c.n k σ)):=by
 have X:=eG (· = c.pb) w;have ac:=E.pbB;have hB:=E.B;have ab:=E.len;have ad:=Rj (n:=c.n) (k:=k) E.at_;unfold EQ;refine Af func167 ntmps167 rfl rfl ?_;refine cS (eA [_,_,_,_] ?_);intro b1 w2 F x6 p7 z8;revert E X;refine eE x6 ?_;intro E X;refine eK ?_;refine cC rfl (Bg _ _ _ Ag) ?_;rintro _ ae ⟨⟨⟩,x9⟩;revert F E X;refine eY x9 ?_;intro af F E X;refine C1 (AR Ac rfl rfl rfl rfl rfl rfl) ?_;refine eK ?_;refine eQ rfl ((Xd c k).block _ _ Ag hk) ?_;rintro _ ag ⟨ah,⟨ai,⟨⟨⟩,⟨f,⟨N,M⟩⟩⟩⟩⟩;have aj:=M.size;have F:=F.fr M Ab;clear E;have X:=X.fr M Ab;refine xA [_,_,_,_] ?_;intro ak al V;refine eI [_,_,_,_] V ?_;intro am L Y an ao;revert f N F X;refine eE Y ?_;intro f N F X;refine eK ?_;refine cC rfl (Xe _ _ _ _ _ _ _ _ Ag Ab Ag) ?_;rintro _ ap ⟨⟨⟩,⟨O,U⟩⟩;revert L f;refine eZ U ?_;intro aq L f;revert F X;refine eF U ?_;intro F X;refine eK ?_;refine eS [_,_,_,_] F ?_;intro ar Z aa au;revert O L f X;refine eF aa ?_;intro O L f X;refine eK ?_;refine xC Z ?_;exact AX (dR Ag (fun b h=>by omega)) Ag X
def H7 (c:PC) (σ:PS) (w:wD) (f:PP c σ w) :
 Calls prog 161 #[.pointer (some ⟨c.pb,0,none⟩)] w fun r w'=>r = .returned (.bool (Cd c.ts σ))/\Ext w w':=by
 have X:=dI w;by_cases h1:(Ap c.ts σ).text=[105,110,116]
 . rw [show Cd c.ts σ=true from by simp [Cd,B7,h1]];refine Af func161 ntmps161 rfl rfl ?_;refine eK ?_;refine cC rfl (Bg _ _ _ Ag) ?_;rintro _ w2 ⟨⟨⟩,N⟩;revert f X;refine eY N ?_;intro z3 f X;refine C1 (AR Ac rfl rfl rfl rfl rfl rfl) ?_;refine eK ?_;refine xR ?_;exact ⟨rfl,X⟩
 by_cases L:(Ap c.ts σ).text=[97,114,114,97,121]
 . rw [show Cd c.ts σ=true from by simp [Cd,B7,L]];refine Af func161 ntmps161 rfl rfl ?_;refine eK ?_;refine cC rfl (Bg _ _ _ Ag) ?_;rintro _ O ⟨⟨⟩,h⟩;revert f X;refine eY h ?_;intro U f X;refine C1 (AR Ac rfl rfl rfl rfl rfl rfl) ?_;refine eK ?_;refine xR ?_;exact ⟨rfl,X⟩
 by_cases M:(Ap c.ts σ).text=[115,116,97,99,107]
 . rw [show Cd c.ts σ=true from by simp [Cd,B7,M]];refine Af func161 ntmps161 rfl rfl ?_;refine eK ?_;refine cC rfl (Bg _ _ _ Ag) ?_;rintro _ V ⟨⟨⟩,E⟩;revert f X;refine eY E ?_;intro Y f X;refine C1 (AR Ac rfl rfl rfl rfl rfl rfl) ?_;refine eK ?_;refine xR ?_;exact ⟨rfl,X⟩
 . rw [show Cd c.ts σ=false from by simp [Cd,B7,h1,L,M]];refine Af func161 ntmps161 rfl rfl ?_;refine eK ?_;refine cC rfl (Bg _ _ _ Ag) ?_;rintro _ Z ⟨⟨⟩,F⟩;revert f X;refine eY F ?_;intro aa f X;refine C1 (AR Ac rfl rfl rfl rfl rfl rfl) ?_;refine eK ?_;refine xR ?_;exact ⟨rfl,X⟩
def Kg (c:PC) (σ:PS) (w:wD) (hP:PP c σ w) :
 Calls prog 164 #[.pointer (some ⟨c.pb,0,none⟩)] w fun r w'=>r = .returned (Bu c.ts c.n σ).1.val/\PP c (Bu c.ts c.n σ).2 w'/\Fr (· = c.pb) w w':=by
 have X:=eG (· = c.pb) w;have hpb:=hP.pbB;have hB:=hP.B;unfold Bu;cases h1:B7 c.ts σ [105,110,116]
 case true=>
  simp only [if_true];refine Af func164 ntmps164 rfl rfl ?_;refine cS (eA [_,_,_] ?_);intro b1 w2 h5 x6 p7 z8;revert hP X;refine eE x6 ?_;intro hP X;refine eK ?_;refine cC rfl (Cf _ _ _ _ Ag Az Ag) ?_;rintro _ bl ⟨⟨⟩,⟨h9,D⟩⟩;have bm:=D.size;have h5:=h5.fr D Ab;clear hP;have X:=X.fr D Ab;refine eK ?_;refine cC rfl (EY _ _ _ Ag) ?_;rintro _ bn ⟨⟨⟩,⟨E,F⟩⟩;have bo:=F.size;revert h5 X;refine eF F ?_;intro h5 X;refine C1 (xB [_,_,_]) (eS [_,_,_] h5 ?_);intro bp S T bq;revert E X;refine eF T ?_;intro E X;refine eK ?_;refine xC S ?_;exact ⟨rfl,Ag,X⟩
 simp only [dH,if_false];cases h2:B7 c.ts σ [115,116,97,99,107]
 case true=>
  simp only [if_true];refine Af func164 ntmps164 rfl rfl ?_;refine cS (eA [_,_,_] ?_);intro br bs e U bt bu;revert hP X;refine eE U ?_;intro hP X;refine eK ?_;refine cC rfl (BS _ _ _ _ Ag Az Ag) ?_;rintro _ Y ⟨⟨⟩,⟨bv,g⟩⟩;have Z:=g.size;have e:=e.fr g Ab;clear hP;have X:=X.fr g Ab;refine eK ?_;refine cC rfl (Cf _ _ _ _ Ag Az Ag) ?_;rintro _ aa ⟨⟨⟩,⟨ab,l⟩⟩;have ac:=l.size;revert e X;refine eF l ?_;intro e X;refine eK ?_;refine cC rfl (EY _ _ _ Ag) ?_;rintro _ ad ⟨⟨⟩,⟨m,o⟩⟩;have ae:=o.size;revert e X;refine eF o ?_;intro e X;refine C1 (xB [_,_,_]) (eS [_,_,_] e ?_);intro af G I ag;revert m X;refine eF I ?_;intro m X;refine eK ?_;refine xC G ?_;exact ⟨rfl,Ag,X⟩
 simp only [dH,if_false];cases h3:B7 c.ts σ [97,114,114,97,121]
 case true=>
  simp only [if_true];refine Af func164 ntmps164 rfl rfl ?_;refine cS (eA [_,_,_] ?_);intro bw bx a V bz b0;revert hP X;refine eE V ?_;intro hP X;refine eK ?_;refine cC rfl (BS _ _ _ _ Ag Az Ag) ?_;rintro _ ah ⟨⟨⟩,⟨b2,h⟩⟩;have ai:=h.size;have a:=a.fr h Ab;clear hP;have X:=X.fr h Ab;refine eK ?_;refine cC rfl (BS _ _ _ _ Ag Az Ag) ?_;rintro _ aj ⟨⟨⟩,⟨ak,p⟩⟩;have al:=p.size;revert a X;refine eF p ?_;intro a X;refine eK ?_;refine cC rfl (Cf _ _ _ _ Ag Az Ag) ?_;rintro _ am ⟨⟨⟩,⟨an,q⟩⟩;have ao:=q.size;revert a X;refine eF q ?_;intro a X;refine eK ?_;refine cC rfl (EY _ _ _ Ag) ?_;rintro _ ap ⟨⟨⟩,⟨s,t⟩⟩;have aq:=t.size;revert a X;refine eF t ?_;intro a X;refine C1 (xB [_,_,_]) (xA [_,_,_] ?_);intro ar au J;refine eI [_,_,_] J ?_;intro av d L aw ax;revert s a X;refine eE L ?_;intro s a X;refine eK ?_;refine cC rfl (BU _ _ _ _ Ag Az) ?_;rintro _ ay ⟨⟨⟩,⟨az,i⟩⟩;have a0:=i.size;have d:=d.fr i Ab;revert a X;refine eF i ?_;intro a X;refine eK ?_;refine cC rfl (PT _ _ _ _ _ Ag Az) ?_;rintro _ a1 ⟨⟨⟩,⟨u,v⟩⟩;have a2:=v.size;revert d a X;refine eF v ?_;intro d a X;refine C1 Pf (eV [_] [_,_,_] d ?_);intro a3 f M a4;revert u a X;refine eF M ?_;intro u a X;refine eK ?_;refine cC rfl (BU _ _ _ _ Ag Az) ?_;rintro _ a5 ⟨⟨⟩,⟨x,j⟩⟩;have a6:=j.size;have f:=f.fr j Ab;revert a X;refine eF j ?_;intro a X;refine eK ?_;refine eS [_,_,_] a ?_;intro a7 N O a8;revert x f X;refine eF O ?_;intro x f X;refine eK ?_;refine xC N ?_
  exact ⟨rfl,Ag,X⟩
 simp only [dH,if_false];refine Af func164 ntmps164 rfl rfl ?_;refine cS (eA [_,_,_] ?_);intro b3 b4 b W b5 b6;revert hP X;refine eE W ?_;intro hP X;refine eK ?_;refine cC rfl (BS _ _ _ _ Ag Az Ag) ?_;rintro _ a9 ⟨⟨⟩,⟨b7,k⟩⟩;have ba:=k.size;have b:=b.fr k Ab;clear hP;have X:=X.fr k Ab;refine eK ?_;refine cC rfl (BS _ _ _ _ Ag Az Ag) ?_;rintro _ bb ⟨⟨⟩,⟨bc,y⟩⟩;have bd:=y.size;revert b X;refine eF y ?_;intro b X;refine eK ?_;refine cC rfl (BS _ _ _ _ Ag Az Ag) ?_;rintro _ be ⟨⟨⟩,⟨bf,z⟩⟩;have bg:=z.size;revert b X;refine eF z ?_;intro b X;refine eK ?_;refine cC rfl (D5 _ _ _ Ag) ?_;rintro _ bh ⟨⟨⟩,⟨A,C⟩⟩;have bi:=C.size;revert b X;refine eF C ?_;intro b X;refine cN (C1 (xB [_,_,_]) (eS [_,_,_] b ?_));intro bj Q R bk;revert A X;refine eF R ?_;intro A X;refine eK ?_;refine xC Q ?_;exact ⟨rfl,Ag,X⟩
section
variable {ts:List Tok} {n:Int}
def Vf {k:Nat} {σ:PS} (h:σ.at_<=ts.length):Le ts σ (Ct ts n k σ).2:=(DR k).2.2.2.1 σ h
end
section
variable {ts:List Tok} {n:Int}
end
section
variable (ts:List Tok) (n:Int)
end
section
variable {ts:List Tok} {n:Int}
def Ci {σ:PS} (h:σ.at_<=ts.length):Le ts σ (Bu ts n σ).2:=by
 unfold Bu;split
 . rename_i f;have h1:=AB (AN h f Az);exact h1.trans (AM h1.wf)
 . split
   . rename_i f;have h1:=AB (AN h f Az);exact h1.trans (AM h1.wf)
   . split
     . rename_i f;have h1:=AB (AN h f Az);have E:=h1.trans (AM (n:=n) h1.wf);have F:=E.trans (Aq (n:=n) (t:=[91]) E.wf Az);have L:=F.trans (FA (n:=n) (a:=1) (b:=16) F.wf);exact L.trans (Aq L.wf Az)
     . exact Gz h
end
section
variable (ts:List Tok) (n:Int)
end
section
variable {ts:List Tok} {n:Int}
def EZ (k:Nat) : ∀acc σ,σ.at_<=ts.length->Le ts σ (Bo ts n k acc σ).2:=by
 induction k with
 | zero=>intro acc σ h;rw [Bo];exact eU h
 | succ k F=>
  intro acc σ h;rw [Bo];split
  . rename_i L;have h1:=AB (AN h L Az);simp only;have f:Le ts σ (if acc.length=8/\Cd ts (Ao σ)=true then Bw (Ao σ) (Ap ts (Ao σ)).pos 5 else Ao σ):=by
     split
     . exact h1.trans (BZ h1.wf _ _)
     . exact h1
    generalize (if acc.length=8/\Cd ts (Ao σ)=true then Bw (Ao σ) (Ap ts (Ao σ)).pos 5 else Ao σ)=τ at *;have E:=f.trans (Ci (n:=n) f.wf);exact E.trans (F _ _ E.wf)
  . exact eU h
end
section
variable (ts:List Tok) (n:Int)
end
section
variable {ts:List Tok} {n:Int}
def Vg {x:Nd} {off:Int} {σ:PS} (h:σ.at_<=ts.length):Le ts σ (D8 x off σ):=by
 unfold D8;split
 . exact eU h
 . split
   . exact BZ h _ _
   . split
     . exact BZ h _ _
     . exact eU h
end
section
variable (ts:List Tok) (n:Int)
end
section
variable {ts:List Tok} {n:Int}
def GC {k:Nat} {σ:PS} (h:σ.at_<=ts.length):Le ts σ (EQ ts n k σ).2:=by
 unfold EQ;have h1:=Vf (n:=n) (k:=k) h;exact h1.trans (Vg h1.wf)
def He (k:Nat) : ∀acc σ,σ.at_<=ts.length->Le ts σ (Dl ts n k acc σ).2:=by
 induction k with
 | zero=>intro acc σ h;rw [Dl];exact eU h
 | succ k F=>
  intro acc σ h;rw [Dl];split
  . have f:Le ts σ (if acc.length=32 then Bw σ (Ap ts σ).pos 5 else σ):=by
     split
     . exact BZ h _ _
     . exact eU h
    have E:=f.trans (Ci (n:=n) f.wf);exact E.trans (F _ _ E.wf)
  . exact eU h
def Ss {σ:PS} (h:σ.at_<=ts.length):Lt σ (Bu ts n σ).2:=by
 unfold Bu;split
 . rename_i f;have h1:=AB (AN h f Az);exact Lt.of_le (ts:=ts) h1 Oo
 . split
   . rename_i f;have h1:=AB (AN h f Az);exact Lt.of_le (ts:=ts) h1 Oo
   . split
     . rename_i f;have h1:=AB (AN h f Az);have E:=h1.trans (AM (n:=n) h1.wf);have F:=E.trans (Aq (n:=n) (t:=[91]) E.wf Az);have L:=F.trans (FA (n:=n) (a:=1) (b:=16) F.wf);exact Lt.of_le (ts:=ts) L DG
     . exact JC
end
section
variable {ts:List Tok} {n:Int}
def F7 (ts:List Tok) (n:Int) (k:Nat) (σ:PS):List VD×PS:=
 if B7 ts σ [41] then ([],Ao σ) else ((Bo ts n k [(Bu ts n σ).1] (Bu ts n σ).2).1,AA ts n (Bo ts n k [(Bu ts n σ).1] (Bu ts n σ).2).2 [41])
def FU {k:Nat} {σ:PS} (h:σ.at_<=ts.length):Le ts σ (F7 ts n k σ).2:=by
 unfold F7;split
 . rename_i E;exact AB (AN h E Az)
 . have h1:=Ci (n:=n) h;have f:=h1.trans (EZ (n:=n) k [(Bu ts n σ).1] _ h1.wf);exact f.trans (Aq f.wf Az)
def FV {k:Nat} {σ:PS}:De ts n k σ=(⟨(A4 ts n (AA ts n σ [112,114,111,99])).1,(F7 ts n k (AA ts n (A4 ts n (AA ts n σ [112,114,111,99])).2 [40])).1,(EQ ts n k (F7 ts n k (AA ts n (A4 ts n (AA ts n σ [112,114,111,99])).2 [40])).2).1⟩,(EQ ts n k (F7 ts n k (AA ts n (A4 ts n (AA ts n σ [112,114,111,99])).2 [40])).2).2):=by
 simp only [De,F7]
def DS {k:Nat} {σ:PS} (h:σ.at_<=ts.length):Le ts σ (De ts n k σ).2:=by
 rw [FV];have h1:=Aq (n:=n) (t:=[112,114,111,99]) h Az;have f:=h1.trans (AM (n:=n) h1.wf);have E:=f.trans (Aq (n:=n) (t:=[40]) f.wf Az);have F:=E.trans (FU (n:=n) (k:=k) E.wf);exact F.trans (GC F.wf)
def JF {k:Nat} {σ:PS} (h:σ.at_<=ts.length):Lt σ (De ts n k σ).2:=by
 rw [FV];have h1:=Aq (n:=n) (t:=[112,114,111,99]) h Az;have f:=AM (n:=n) h1.wf;have E:=f.trans (Aq (n:=n) (t:=[40]) f.wf Az);have F:=E.trans (FU (n:=n) (k:=k) E.wf);exact Lt.of_lt (DG (ts:=ts) (n:=n)) (F.trans (GC F.wf))
def DT (k:Nat) : ∀acc σ,σ.at_<=ts.length->Le ts σ (B5 ts n k acc σ).2:=by
 induction k with
 | zero=>intro acc σ h;rw [B5];exact eU h
 | succ k F=>
  intro acc σ h;rw [B5];split
  . have f:Le ts σ (if acc.length=64 then Bw σ (Ap ts σ).pos 5 else σ):=by
     split
     . exact BZ h _ _
     . exact eU h
    have E:=f.trans (DS (n:=n) (k:=k) f.wf);exact E.trans (F _ _ E.wf)
  . exact eU h
def PZ {k:Nat} {σ:PS} (h:σ.at_<=ts.length):Le ts σ (BH ts n k σ).2:=by
 unfold BH;have h1:=He (n:=n) k [] σ h;have f:=h1.trans (DT (n:=n) k [] _ h1.wf);have E:=f.trans (Aq (n:=n) (t:=[109,97,105,110]) f.wf Az);exact E.trans (GC E.wf)
end
def OwnL.cap {α:Type} {sh:Shape α} {w:wD} {B e:Nat} {a:oA} {len cap:Nat} {xs:List α} (h:OwnL sh w B e (.slice a len cap) xs):xs.length<=cap:=by
 obtain ⟨E,⟨-,h1⟩,-⟩:=h.ex;rcases h1 with ⟨f,L⟩|⟨g,c,F,f,-,-,M,-⟩
 . omega
 . simp only [bZ] at f;omega
def VdsR (c:PC) (w:wD) (r:List VD×PS):Ending->wD->Prop:=fun e w'=> ∃a k,e = .returned (.slice a r.1.length k)/\r.1.length<=k/\VDs (fun b=>w.heap.size<=b/\b<w'.heap.size) w' r.1 a/\PP c r.2 w'/\Fr (· = c.pb) w w'
def VdsR.ret {c:PC} {w:wD} {r:List VD×PS} {e:Ending} {w':wD} (h:VdsR c w r e w') : ∃v,e = .returned v:=by
 obtain ⟨_,_,h,-⟩:=h;exact ⟨_,h⟩
def Vh (c:PC) (k:Nat) (σ:PS) (w:wD) (hP:PP c σ w) (hk:mS c.ts σ+1<=k) :
 Calls prog 212 #[.pointer (some ⟨c.pb,0,none⟩)] w (VdsR c w (Bo c.ts c.n k [(Bu c.ts c.n σ).1] (Bu c.ts c.n σ).2)):=by
 have X:=eG (· = c.pb) w;have hpb:=hP.pbB;have hB:=hP.B;have hlen:=hP.len;have hd:=BC (Ci (n:=c.n) hP.at_);have hmt:mS c.ts σ<=c.ts.length:=by unfold mS;split<;>omega
 refine Af func212 ntmps212 rfl rfl ?_;refine eK ?_;refine cC rfl (Kg _ _ _ Ag) ?_;rintro _ w3 ⟨⟨⟩,⟨h1,f2⟩⟩;have z4:=f2.size;clear hP;have X:=X.fr f2 Ab;refine Au (xS [_,_,_]) rfl ?_ aFh;rintro _ w6 ⟨b5,rfl,n7,t8⟩;have t9:TB _ _ _ _:=t8;have O:=n7.ext;have a8:=n7.pos;have a9:=n7.size;revert h1 X;refine eE O ?_;intro h1 X;refine C1 Pa (cT (Aj (Ar ?_)));have hown:=OwnL.lit (sh:=E7) (B:=w.heap.size) (x:=(Bu c.ts c.n σ).1) Ag Ab rfl;generalize Bu c.ts c.n σ=D at *;refine AJ (ι:=Nat×List VD×Nat×Nat×PS) (fun x=>[(0,.pointer (some ⟨c.pb,0,none⟩)),(3,.slice (some ⟨x.2.2.1,0,none⟩) x.2.1.length x.2.2.2.1)])
  (fun x w'=>PP c x.2.2.2.2 w'/\OwnL E7 w' w.heap.size 93 (.slice (some ⟨x.2.2.1,0,none⟩) x.2.1.length x.2.2.2.1) x.2.1/\Fr (· = c.pb) w w'/\w6.heap.size<=w'.heap.size /\
   Bo c.ts c.n k [D.1] D.2=Bo c.ts c.n x.1 x.2.1 x.2.2.2.2/\mS c.ts x.2.2.2.2+1<=x.1/\x.2.1.length+mS c.ts x.2.2.2.2<=1000001) (fun x=>x.1) (k,[D.1],b5,1,D.2) sB
  ⟨h1,hown,X,bJ _,rfl,by simp only;omega,by simp only [aV,aX];omega⟩ ?_
 rintro ⟨j,acc,g,cap,σ'⟩ w1 ⟨hP,hown,X,hz,he,hfj,hacc⟩;simp only at hP hown he hfj hacc;rw [he];refine fM (m:=[(0,.pointer (some ⟨c.pb,0,none⟩)),(3,.slice (some ⟨g,0,none⟩) acc.length cap)]) ?_ sB;obtain ⟨j,rfl⟩ : ∃i,j=i+1:=⟨j-1,Ab⟩
 cases hc:B7 c.ts σ' [44]
 case false=>
  rw [show Bo c.ts c.n (j+1) acc σ'=(acc,σ') from by rw [Bo];simp [hc]];refine eK ?_;refine cC rfl (BS _ _ _ _ Ag Az Ag) ?_;rintro _ ba ⟨⟨⟩,⟨bb,v⟩⟩;have bc:=v.size;clear hP;revert hown X;refine eF v ?_;intro hown X;refine eK ?_;refine xR ?_;exact ⟨_,_,rfl,OwnL.cap Ag,VDs.lt2 (S:=(w.heap.size <= ·)) (OwnL.vds Ag (fun b h=>h)),Ag,X⟩
 have hin:=AN hP.at_ hc Az;have hmn:=Ca hin;by_cases h8:acc.length=8
 . cases hnm:Cd c.ts (Ao σ')
   . have hml:=BC (Ci (n:=c.n) (show (Ao σ').at_<=c.ts.length from hin.2));rw [show Bo c.ts c.n (j+1) acc σ'=Bo c.ts c.n j (acc++[(Bu c.ts c.n (Ao σ')).1]) (Bu c.ts c.n (Ao σ')).2 from by rw [Bo];simp [hc,h8,hnm]];refine eK ?_;refine cC rfl (Cf _ _ _ _ Ag Az Ag) ?_;rintro _ bd ⟨⟨⟩,⟨y,z⟩⟩;have be:=z.size;clear hP;revert hown X;refine eF z ?_;intro hown X;refine eK ?_;refine cC rfl (H7 _ _ _ Ag) ?_;rintro _ bf ⟨⟨⟩,Q⟩;revert y hown X;refine eY Q ?_;intro bg y hown X;refine C1 Uy (cT (Fp rfl Ag ?_));refine eK ?_;refine cC rfl (Kg _ _ _ Ag) ?_;rintro _ U ⟨⟨⟩,⟨q,A⟩⟩;have V:=A.size;revert hown X;refine eF A ?_;intro hown X;refine Au (xS [_,_,_]) rfl ?_ aFh;rintro _ W ⟨Y,rfl,a,Z⟩;have aa:=a.blk;have C:=a.ext;have ab:=a.pos;have ac:=a.size;revert q hown X;refine eE C ?_;intro q hown X;refine BN (sh:=E7) Ac CM rfl rfl rfl rfl Bl rfl rfl rfl hown (eC Ag) rfl Ab Ab rfl ?_;rintro ad E ae af l;have ag:=l.size;have q:=q.fr l Ab;clear hown;have X:=X.fr l Ab;refine C1 Pa (Ah (Ae ?_));refine Aw (j,acc++[(Bu c.ts c.n (Ao σ')).1],_,_,(Bu c.ts c.n (Ao σ')).2) sB ⟨Ag,Ag,X,Ab,rfl,by simp only;omega,by simp only [aU,aV,aX];omega⟩ Bd
   . have hfl:=BZ (show (Ao σ').at_<=c.ts.length from hin.2) (Ap c.ts (Ao σ')).pos 5;have hml:=BC (hfl.trans (Ci (n:=c.n) hfl.wf));rw [show Bo c.ts c.n (j+1) acc σ'=Bo c.ts c.n j (acc++[(Bu c.ts c.n (Bw (Ao σ') (Ap c.ts (Ao σ')).pos 5)).1]) (Bu c.ts c.n (Bw (Ao σ') (Ap c.ts (Ao σ')).pos 5)).2 from by rw [Bo];simp [hc,h8,hnm]];refine eK ?_;refine cC rfl (Cf _ _ _ _ Ag Az Ag) ?_;rintro _ bh ⟨⟨⟩,⟨r,F⟩⟩;have bi:=F.size;clear hP;revert hown X;refine eF F ?_;intro hown X;refine eK ?_;refine cC rfl (H7 _ _ _ Ag) ?_;rintro _ bj ⟨⟨⟩,R⟩;revert r hown X;refine eY R ?_;intro bk r hown X;refine C1 Uy (cT (Fc rfl Ag ?_));refine eK ?_;refine cC rfl (Bg _ _ _ Ag) ?_;rintro _ bl ⟨⟨⟩,T⟩;revert r hown X;refine eY T ?_;intro ah r hown X;refine C1 (AR Ac rfl rfl rfl rfl rfl rfl) (cC rfl (FQ _ _ _ _ _ Ag) ?_);rintro _ ai ⟨⟨⟩,⟨aj,t⟩⟩;have ak:=t.size;revert hown X;refine eF t ?_;intro hown X;refine eK ?_;refine cC rfl (Kg _ _ _ Ag) ?_;rintro _ al ⟨⟨⟩,⟨d,u⟩⟩;have am:=u.size;revert hown X;refine eF u ?_;intro hown X;refine Au (xS [_,_,_]) rfl ?_ aFh;rintro _ an ⟨ao,rfl,e,ap⟩;have aq:=e.blk;have G:=e.ext;have ar:=e.pos;have au:=e.size;revert d hown X;refine eE G ?_;intro d hown X;refine BN (sh:=E7) Ac CM rfl rfl rfl rfl Bl rfl rfl rfl hown (eC Ag) rfl Ab Ab rfl ?_
     rintro av I aw ax o;have ay:=o.size;have d:=d.fr o Ab;clear hown;have X:=X.fr o Ab;refine C1 Pa (Ah (Ae ?_));refine Aw (j,acc++[(Bu c.ts c.n (Bw (Ao σ') (Ap c.ts (Ao σ')).pos 5)).1],_,_,(Bu c.ts c.n (Bw (Ao σ') (Ap c.ts (Ao σ')).pos 5)).2) sB ⟨Ag,Ag,X,Ab,rfl,by simp only;omega,by simp only [aU,aV,aX];omega⟩ Bd
 . have hml:=BC (Ci (n:=c.n) (show (Ao σ').at_<=c.ts.length from hin.2));rw [show Bo c.ts c.n (j+1) acc σ'=Bo c.ts c.n j (acc++[(Bu c.ts c.n (Ao σ')).1]) (Bu c.ts c.n (Ao σ')).2 from by rw [Bo];simp [hc,h8]];refine eK ?_;refine cC rfl (Cf _ _ _ _ Ag Az Ag) ?_;rintro _ bm ⟨⟨⟩,⟨bn,J⟩⟩;have bo:=J.size;clear hP;revert hown X;refine eF J ?_;intro hown X;refine eK ?_;refine cC rfl (Kg _ _ _ Ag) ?_;rintro _ bp ⟨⟨⟩,⟨s,L⟩⟩;have bq:=L.size;revert hown X;refine eF L ?_;intro hown X;refine Au (xS [_,_,_]) rfl ?_ aFh;rintro _ az ⟨br,rfl,f,a0⟩;have a1:=f.blk;have M:=f.ext;have a2:=f.pos;have a3:=f.size;revert s hown X;refine eE M ?_;intro s hown X;refine BN (sh:=E7) Ac CM rfl rfl rfl rfl Bl rfl rfl rfl hown (eC Ag) rfl Ab Ab rfl ?_;rintro a4 N a5 a6 p;have a7:=p.size;have s:=s.fr p Ab;clear hown;have X:=X.fr p Ab;refine C1 Pa (Ah (Ae ?_));refine Aw (j,acc++[(Bu c.ts c.n (Ao σ')).1],_,_,(Bu c.ts c.n (Ao σ')).2) sB ⟨Ag,Ag,X,Ab,rfl,by simp only;omega,by simp only [aU,aV,aX];omega⟩ Bd
def PdR (c:PC) (w:wD) (r:PD×PS):Ending->wD->Prop:=fun e w'=> ∃pa pc ba bc,e = .returned (.agg (r.1.cells pa pc ba bc).toArray)/\r.1.params.length<=pc/\VDs (fun b=>w.heap.size<=b/\b<w'.heap.size) w' r.1.params pa/\r.1.body.sits (fun b=>w.heap.size<=b/\b<w'.heap.size) w' ba/\PP c r.2 w'/\Fr (· = c.pb) w w'
def PdR.ret {c:PC} {w:wD} {r:PD×PS} {e:Ending} {w':wD} (h:PdR c w r e w') : ∃v,e = .returned v:=by
 obtain ⟨_,_,_,_,h,-⟩:=h;exact ⟨_,h⟩
def Vi (c:PC) (k:Nat) (σ:PS) (w:wD) (hP:PP c σ w) (hk:4*mS c.ts σ+8<=k) :
 Calls prog 165 #[.pointer (some ⟨c.pb,0,none⟩)] w (PdR c w (De c.ts c.n k σ)):=by
 have X:=eG (· = c.pb) w;have hpb:=hP.pbB;have hB:=hP.B;have hlen:=hP.len;have l1:=Aq (n:=c.n) (t:=[112,114,111,99]) hP.at_ Az;have l2:=l1.trans (AM (n:=c.n) l1.wf);have l3:=l2.trans (Aq (n:=c.n) (t:=[40]) l2.wf Az);have l4:=l3.trans (FU (n:=c.n) (k:=k) l3.wf);have m3:=BC l3;have m4:=BC l4;rw [FV];generalize hM:A4 c.ts c.n (AA c.ts c.n σ [112,114,111,99])=M at *;have hname : ∀ {w':wD},PP c (AA c.ts c.n σ [112,114,111,99]) w'->Calls prog 210 #[.pointer (some ⟨c.pb,0,none⟩)] w' fun r w''=>r = .returned (str M.1)/\PP c M.2 w''/\Fr (· = c.pb) w' w'':=fun h=>hM▸EY c _ _ h
 clear l1 l2 l3 l4 hM;cases hh:B7 c.ts (AA c.ts c.n M.2 [40]) [41]
 case true=>
  rw [show F7 c.ts c.n k (AA c.ts c.n M.2 [40])=([],Ao (AA c.ts c.n M.2 [40])) from by simp [F7,hh]] at m4 ⊢;simp only at m4 ⊢;refine Af func165 ntmps165 rfl rfl ?_;refine cS (eA [_,_,_,_,_,_] ?_);intro b1 w2 h5 x6 p7 z8;revert hP X;refine eE x6 ?_;intro hP X;refine eK ?_;refine cC rfl (BU _ _ _ _ Ag Az) ?_;rintro _ a9 ⟨⟨⟩,⟨h9,C⟩⟩;have ba:=C.size;have h5:=h5.fr C Ab;clear hP;have X:=X.fr C Ab;refine eK ?_;refine cC rfl (hname Ag) ?_;rintro _ bb ⟨⟨⟩,⟨E,F⟩⟩;have bc:=F.size;revert h5 X;refine eF F ?_;intro h5 X;refine C1 (xB [_,_,_,_,_,_]) (xA [_,_,_,_,_,_] ?_);intro bd be T;refine eI [_,_,_,_,_,_] T ?_;intro bf g U bg bh;revert E h5 X;refine eE U ?_;intro E h5 X;refine eK ?_;refine cC rfl (BU _ _ _ _ Ag Az) ?_;rintro _ bi ⟨⟨⟩,⟨bj,D⟩⟩;have bk:=D.size;have g:=g.fr D Ab;revert h5 X;refine eF D ?_;intro h5 X;refine eK ?_;refine cC rfl (Cf _ _ _ _ Ag Az Ag) ?_;rintro _ bl ⟨⟨⟩,⟨bm,G⟩⟩;have bn:=G.size;revert g h5 X;refine eF G ?_;intro g h5 X;refine eK ?_;refine eQ rfl (Rk c k _ _ Ag Ab) ?_;rintro _ bo ⟨bp,⟨bq,⟨⟨⟩,⟨o,⟨p,I⟩⟩⟩⟩⟩;have br:=I.size;revert g h5 X;refine eF I ?_;intro g h5 X;refine C1 Pf (eV [_,_,_,_] [_,_,_,_,_,_] g ?_);intro bs J V bt;revert o p h5 X;refine eF V ?_;intro o p h5 X;refine eK ?_;refine eS [_,_,_,_,_,_] h5 ?_;intro bu W Y bv;revert J o p X;refine eF Y ?_;intro J o p X;refine eK ?_;refine xC W ?_
  exact ⟨_,_,_,_,rfl,bI _,bC rfl,dR Ag (fun b h=>by omega),Ag,X⟩
 rw [show F7 c.ts c.n k (AA c.ts c.n M.2 [40])=((Bo c.ts c.n k [(Bu c.ts c.n (AA c.ts c.n M.2 [40])).1] (Bu c.ts c.n (AA c.ts c.n M.2 [40])).2).1,AA c.ts c.n (Bo c.ts c.n k [(Bu c.ts c.n (AA c.ts c.n M.2 [40])).1] (Bu c.ts c.n (AA c.ts c.n M.2 [40])).2).2 [41]) from by simp [F7,hh]] at m4 ⊢;simp only at m4 ⊢;refine Af func165 ntmps165 rfl rfl ?_;refine cS (eA [_,_,_,_,_,_] ?_);intro bw bx a Z bz b0;revert hP X;refine eE Z ?_;intro hP X;refine eK ?_;refine cC rfl (BU _ _ _ _ Ag Az) ?_;rintro _ aa ⟨⟨⟩,⟨b2,l⟩⟩;have ab:=l.size;have a:=a.fr l Ab;clear hP;have X:=X.fr l Ab;refine eK ?_;refine cC rfl (hname Ag) ?_;rintro _ ac ⟨⟨⟩,⟨q,s⟩⟩;have ad:=s.size;revert a X;refine eF s ?_;intro a X;refine C1 (xB [_,_,_,_,_,_]) (xA [_,_,_,_,_,_] ?_);intro ae af L;refine eI [_,_,_,_,_,_] L ?_;intro ag e N ah ai;revert q a X;refine eE N ?_;intro q a X;refine eK ?_;refine cC rfl (BU _ _ _ _ Ag Az) ?_;rintro _ aj ⟨⟨⟩,⟨ak,m⟩⟩;have al:=m.size;have e:=e.fr m Ab;revert a X;refine eF m ?_;intro a X;refine eK ?_;refine cC rfl (BS _ _ _ _ Ag Az Ag) ?_;rintro _ am ⟨⟨⟩,⟨an,u⟩⟩;have ao:=u.size;revert e a X;refine eF u ?_;intro e a X;refine eK ?_;refine eQ rfl (Vh c k _ _ Ag Ab) ?_;rintro _ ap ⟨aq,⟨ar,⟨⟨⟩,⟨au,⟨d,⟨v,x⟩⟩⟩⟩⟩⟩;have av:=x.size;revert e a X
 refine eF x ?_;intro e a X;refine C1 Pf (eV [_] [_,_,_,_,_,_] e ?_);intro aw f O ax;revert d v a X;refine eF O ?_;intro d v a X;refine eK ?_;refine cC rfl (BU _ _ _ _ Ag Az) ?_;rintro _ ay ⟨⟨⟩,⟨az,y⟩⟩;revert f d;refine eZ y ?_;intro a0 f d;revert a X;refine eF y ?_;intro a X;refine eK ?_;refine eQ rfl (Rk c k _ _ Ag Ab) ?_;rintro _ a1 ⟨a2,⟨a3,⟨⟨⟩,⟨i,⟨j,z⟩⟩⟩⟩⟩;have a4:=z.size;revert f d a X;refine eF z ?_;intro f d a X;refine C1 Pf (eV [_,_,_,_] [_,_,_,_,_,_] f ?_);intro a5 A Q a6;revert i j d a X;refine eF Q ?_;intro i j d a X;refine eK ?_;refine eS [_,_,_,_,_,_] a ?_;intro a7 R S a8;revert A i j d X;refine eF S ?_;intro A i j d X;refine eK ?_;refine xC R ?_;exact ⟨_,_,_,_,rfl,Ag,VDs.wide Ag (fun b h=>by omega),dR Ag (fun b h=>by omega),Ag,X⟩
def Yc (S:nP) (w:wD) (b o:Nat) (p:PD):Prop:= ∃pa pc ba bc,Row w ⟨b,o,none⟩ (p.cells pa pc ba bc)/\VDs S w p.params pa/\p.body.sits S w ba/\p.params.length<=pc
def PDsC (S:nP) (w:wD) (l:List PD) (a:oA):Prop:=Arr S 6 (Yc S) w l a
def PDsC.pds {S:nP} {w:wD} {l:List PD} {a:oA} (h:PDsC S w l a):PDs S w l a:=h.mono aFh (fun _ _ _ _ _ ⟨f,pc,ba,bc,h1,h2,h3,_⟩=>⟨f,pc,ba,bc,h1,h2,h3⟩)
def PDsC.ext {S:nP} {w w':wD} {l:List PD} {a:oA} (h:PDsC S w l a) (x:Ext w w'):PDsC S w' l a:=
 h.mono aFh (fun _ _ _ _ _ ⟨f,pc,ba,bc,h1,h2,h3,h4⟩=>⟨f,pc,ba,bc,h1.ext x,h2.ext x,h3.ext x,h4⟩)
instance {S:nP} {w w':wD} {l:List PD} {a:oA}:LfE w w' (PDsC S w l a) (PDsC S w' l a):=⟨fun x h=>Bk.PDsC.ext h x⟩
def PDsC.fr {S T:nP} {w w':wD} {l:List PD} {a:oA} (h:PDsC S w l a) (x:Fr T w w') (f : ∀b,S b -> ¬T b):PDsC S w' l a:=
 h.mono aFh (fun b _ _ _ E ⟨F,pc,ba,bc,h1,h2,h3,h4⟩=>⟨F,pc,ba,bc,h1.fr x (f b E),h2.fr x f,h3.fr x f,h4⟩)
instance {S T:nP} {w w':wD} {l:List PD} {a:oA}:LfF T w w' (PDsC S w l a) (∀b,S b -> ¬T b) (PDsC S w' l a):=⟨fun x s h=>Bk.PDsC.fr h x s⟩
def PDsC.get {S:nP} {w:wD} {l:List PD} {a:oA} (h:PDsC S w l a) (f:l≠[]) : ∃b o,a=some ⟨b,o,none⟩/\S b /\ ∀i p,l[i]? = some p->Yc S w b (o+i*6) p:=by
 rcases h with h|⟨b,o,h1,E,F⟩
 . exact absurd h f
 . exact ⟨b,o,h1,E,fun i v L=>F i v L⟩
def PDsC.ltA {S:nP} {w:wD} {l:List PD} {a:oA} (h:PDsC S w l a):PDsC (· < w.heap.size) w l a:=by
 rcases h with h|⟨b,o,h1,Z,f⟩
 . exact bC h
 . cases l with
   | nil=>exact bC rfl
   | cons p r=>
    obtain ⟨E,F,L,M,N,-⟩:=f 0 p rfl;refine bF ⟨b,o,h1,Cb (N.at0 rfl),fun i v O=>?_⟩;obtain ⟨E,F,L,M,U,V,X,Y⟩:=f i v O;exact ⟨E,F,L,M,U,V.lt2.wide (fun _ h=>h.2),Hu _ _ X,Y⟩
def Fh:Shape PD where
 sz:=6
 rep:=fun w S p cs=> ∃pa pc ba bc,cs=p.cells pa pc ba bc/\VDs S w p.params pa/\p.body.sits S w ba/\p.params.length<=pc
 len:=fun ⟨_,_,_,_,h,_⟩=>by rw [h];rfl
 one:=fun ⟨_,_,_,_,h,_⟩=>by rw [h];rfl
 mono:=fun ⟨pa,pc,ba,bc,h,h1,h2,h3⟩ hS hc=>⟨pa,pc,ba,bc,h,h1.move hS hc,Nd.sits_mono hS hc _ ba h2,h3⟩
 lt:=fun ⟨pa,pc,ba,bc,h,h1,h2,h3⟩=>⟨pa,pc,ba,bc,h,h1.lt2,Gs _ ba h2,h3⟩
def PDsC.wide {S S':nP} {w:wD} {l:List PD} {a:oA} (h:PDsC S w l a) (f : ∀b,S b->S' b):PDsC S' w l a:=
 h.mono f (fun _ _ _ _ _ ⟨E,pc,ba,bc,h1,h2,h3,h4⟩=>⟨E,pc,ba,bc,h1,h2.wide f,dR h3 f,h4⟩)
def OwnL.pdsC {w:wD} {B e:Nat} {a:oA} {len cap:Nat} {xs:List PD} {S:nP} (h:OwnL Fh w B e (.slice a len cap) xs) (E : ∀b,B<=b->S b):PDsC S w xs a:=by
 by_cases L:xs=[]
 . exact bC L
 . obtain ⟨g,M,N,O,f⟩:=h.rows L;simp only [bZ] at N;obtain ⟨rfl,-,-⟩:=N;refine bF ⟨g,0,rfl,E g O,fun i x U=>?_⟩;obtain ⟨cs,V,X,Y,Z,bc,rfl,h1,h2,h3⟩:=f i x U;exact ⟨X,Y,Z,bc,by simpa [Fh] using V,h1.wide (fun b F=>E b F.1),h2.wide (fun b F=>E b F.1),h3⟩
def PgR (c:PC) (w:wD) (r:PG×PS):Ending->wD->Prop:=fun e w'=> ∃va vc pa pc ma mc,e = .returned (.agg (r.1.cells va vc pa pc ma mc).toArray)/\(r.1.sits (w.heap.size <= ·) w' va pa ma/\PDsC (w.heap.size <= ·) w' r.1.procs pa/\r.1.vars.length<=vc)/\PP c r.2 w'/\Fr (· = c.pb) w w'
def PgR.ret {c:PC} {w:wD} {r:PG×PS} {e:Ending} {w':wD} (h:PgR c w r e w') : ∃v,e = .returned v:=by
 obtain ⟨_,_,_,_,_,_,h,-⟩:=h;exact ⟨_,h⟩
def PDs.wide {S S':nP} {w:wD} {l:List PD} {a:oA} (h:PDs S w l a) (f : ∀b,S b->S' b):PDs S' w l a:=
 h.mono f (fun _ _ _ _ _ ⟨E,pc,ba,bc,h1,h2,h3⟩=>⟨E,pc,ba,bc,h1,h2.wide f,h3.wide f⟩)
def Nu (c:PC) (k:Nat) (σ:PS) (w:wD) (hP:PP c σ w) (hk:4*mS c.ts σ+9<=k) :
 Calls prog 114 #[.pointer (some ⟨c.pb,0,none⟩)] w (PgR c w (BH c.ts c.n k σ)):=by
 have X:=eG (· = c.pb) w;have hpb:=hP.pbB;have hB:=hP.B;have hlen:=hP.len;have hat:=hP.at_;have hmt:mS c.ts σ<=c.ts.length:=by unfold mS;split<;>omega
 unfold BH
 (try dsimp only);refine Af func114 ntmps114 rfl rfl ?_
 refine cS (eA [_,_,_,_,_,_] ?_);intro b1 w2 h5 x6 p7 z8;revert hP X;refine eE x6 ?_;intro hP X;refine cN (eA [_,_,_,_,_,_] ?_);intro b9 bj bk bl eb ec;revert h5 hP X;refine eE bl ?_;intro h5 hP X;refine cT (Aj (Ar ?_));refine AJ (ι:=Nat×List VD×oA×Nat×PS) (fun _=>[(0,.pointer (some ⟨c.pb,0,none⟩)),(2,.pointer (some ⟨b1,0,none⟩)),(3,.pointer (some ⟨b9,0,none⟩))])
  (fun x w'=>PP c x.2.2.2.2 w'/\Blk w' b9 [.slice x.2.2.1 x.2.1.length x.2.2.2.1,.slice none 0 0,.int .u8 0,.int .i64 0,.string ⟨#[]⟩,.slice none 0 0]/\OwnL E7 w' (b9+1) 93 (.slice x.2.2.1 x.2.1.length x.2.2.2.1) x.2.1 /\
   Blk w' b1 [.slice none 0 0,.slice none 0 0,.int .u8 0,.int .i64 0,.string ⟨#[]⟩,.slice none 0 0]/\Fr (· = c.pb) w w'/\bj.heap.size<=w'.heap.size/\Le c.ts σ x.2.2.2.2 /\
   Dl c.ts c.n k [] σ=Dl c.ts c.n x.1 x.2.1 x.2.2.2.2/\(x.2.2.2.2.err=0->mS c.ts x.2.2.2.2+1<=x.1)/\1<=x.1/\(x.2.2.2.2.err=0->x.2.1.length+mS c.ts x.2.2.2.2<=1000001)) (fun x=>x.1) (k,[],none,0,σ) sB
  ⟨hP,bk,OwnL.nil,h5,X,bJ _,eU hat,rfl,fun _=>by simp only;omega,by simp only;omega,fun _=>by simp only [aX];omega⟩ ?_
 rintro ⟨j,acc,a,cap,σ'⟩ w1 ⟨hP,hbn,hown,hbr,X,hz,hle,he,hfj,bm,hacc⟩;simp only at hP hbn hown hle he hfj bm hacc;rw [he];obtain ⟨j,rfl⟩ : ∃i,j=i+1:=⟨j-1,Ab⟩
 cases hc:Cd c.ts σ'
 case true=>
  have hin:In c.ts σ':=by
   simp only [Cd,Bool.or_eq_true] at hc;rcases hc with (h|h)|h<;>exact AN hP.at_ h Az
  have h0:=hin.1;have bn:=hfj h0;have bo:=hacc h0;have bp:=Rh hin;by_cases h8:acc.length=32
  . rw [show Dl c.ts c.n (j+1) acc σ'=Dl c.ts c.n j (acc++[(Bu c.ts c.n (Bw σ' (Ap c.ts σ').pos 5)).1]) (Bu c.ts c.n (Bw σ' (Ap c.ts σ').pos 5)).2 from by rw [Dl];simp [hc,h8]];have hfl:=BZ (show σ'.at_<=c.ts.length from hP.at_) (Ap c.ts σ').pos 5;have hdl:=hfl.trans (Ci (n:=c.n) hfl.wf);have hdt:Lt σ' (Bu c.ts c.n (Bw σ' (Ap c.ts σ').pos 5)).2:=Lt.of_le hfl (Ss hfl.wf);have hdr:=JE hdl hdt;have r:=hle.trans hdl;refine eK ?_;refine cC rfl (H7 _ _ _ Ag) ?_;rintro _ ed ⟨⟨⟩,bq⟩;revert hP hbn hown hbr X;refine eY bq ?_;intro ee hP hbn hown hbr X;refine cT (Fc rfl Ag ?_);refine eK ?_;refine cC rfl (Bg _ _ _ Ag) ?_;rintro _ ef ⟨⟨⟩,br⟩;revert hP hbn hown hbr X;refine eY br ?_;intro eg hP hbn hown hbr X;refine C1 (AR Ac rfl rfl rfl rfl rfl rfl) (cC rfl (FQ _ _ _ _ _ Ag) ?_);rintro _ ap ⟨⟨⟩,⟨al,aq⟩⟩;have cd:=aq.size;clear hP;revert hbn hown hbr X;refine eF aq ?_;intro hbn hown hbr X;refine cT (AC (fun wz=>Fr (· = c.pb) ap wz) 5 (.pure 0 (.pure 1 (.pure 2 (.fork 3 (.fork 4 .tail .none) .none)))) mixed Bl (Al (Aa (Al (Aa An)))) ?_);intro ar Z _;have f:(fun wz=>Fr (· = c.pb) ap wz) ar:=eJ Z;simp only at f;have bs:=al;have o:=hbn;have Y:=hown;have z:=hbr;revert al hbn hown hbr X;refine eY Z ?_;intro ce al hbn hown hbr X;refine ⟨f,?_⟩;refine Tq rfl Pg (Tq rfl (Ax Ac rfl rfl rfl (fun wz hz=>dP (dQ o hz (by first|omega|(dsimp only;omega))) rfl)) (Tq rfl Mv ?_));refine tC rfl rfl (Kg _ _ _ Ag) ?_;rintro _ cf ⟨⟨⟩,⟨s,J⟩⟩
    have cg:=J.size;have f:=f.fr J Ab;revert hbn hown hbr X;refine eF J ?_;intro hbn hown hbr X;refine ⟨f,?_⟩;refine A1 rfl (xS [_,_,_]) rfl ?_ aFh A7;rintro _ ch ⟨ci,rfl,A,cj⟩;have ck:=A.blk;have au:=A.ext;have cl:=A.pos;have cm:=A.size;revert s f hbn hown hbr X;refine eE au ?_;intro s f hbn hown hbr X;refine ⟨f,?_⟩;refine AF rfl (BN (sh:=E7) Ac CM rfl rfl rfl rfl Bl rfl rfl rfl hown (eC Ag) rfl Ab Ab rfl ?_);rintro cn av co aa L;have cp:=L.size;revert s hbn;refine eF L ?_;intro s hbn;clear hown;revert hbr X;refine eF L ?_;intro hbr X;refine C1 Pg (eV [_] [_,_,_,_,_,_] hbn ?_);intro cq cr aw cs;clear hbn;revert aa s hbr X;refine eF aw ?_;intro aa s hbr X;refine Ah (Ae ?_);refine Aw (j,acc++[(Bu c.ts c.n (Bw σ' (Ap c.ts σ').pos 5)).1],some ⟨_,0,none⟩,_,(Bu c.ts c.n (Bw σ' (Ap c.ts σ').pos 5)).2) sB ⟨Ag,Ag,Ag,Ag,X,Ab,r,rfl,fun e=>by have:=hdr e;simp only;omega,by simp only;omega,fun e=>by have:=hdr e;simp only [aU,aV,aX];omega⟩ Bd
  . rw [show Dl c.ts c.n (j+1) acc σ'=Dl c.ts c.n j (acc++[(Bu c.ts c.n σ').1]) (Bu c.ts c.n σ').2 from by rw [Dl];simp [hc,h8]];have hdl:=Ci (n:=c.n) hP.at_;have hdr:=JE hdl (Ss hP.at_);have r:=hle.trans hdl;refine eK ?_;refine cC rfl (H7 _ _ _ Ag) ?_;rintro _ ax ⟨⟨⟩,bt⟩;revert hP hbn hown hbr X;refine eY bt ?_;intro eh hP hbn hown hbr X;refine cT (Fc rfl Ag ?_);refine eK ?_;refine AC (fun wz=>Fr (· = c.pb) ax wz) 5 (.pure 0 (.pure 1 (.pure 2 (.fork 3 (.fork 4 .tail .none) .none)))) mixed Bl (Al (Aa (Al (Aa An)))) ?_;intro bu ay _;have p:(fun wz=>Fr (· = c.pb) ax wz) bu:=eJ ay;simp only at p;have az:=hP;have o:=hbn;have Y:=hown;have z:=hbr;revert hP hbn hown hbr X;refine eY ay ?_;intro ei hP hbn hown hbr X;refine ⟨p,?_⟩;refine Tq rfl Pg (Tq rfl (Ax Ac rfl rfl rfl (fun wz hz=>dP (dQ o hz (by first|omega|(dsimp only;omega))) rfl)) (Tq rfl Mv ?_));refine tC rfl rfl (Kg _ _ _ Ag) ?_;rintro _ ct ⟨⟨⟩,⟨I,M⟩⟩;have cu:=M.size;have p:=p.fr M Ab;clear hP;revert hbn hown hbr X;refine eF M ?_;intro hbn hown hbr X;refine ⟨p,?_⟩;refine A1 rfl (xS [_,_,_]) rfl ?_ aFh A7;rintro _ cv ⟨cw,rfl,C,cx⟩;have cy:=C.blk;have a0:=C.ext;have cz:=C.pos;have c0:=C.size;revert I p hbn hown hbr X;refine eE a0 ?_;intro I p hbn hown hbr X;refine ⟨p,?_⟩;refine AF rfl (BN (sh:=E7) Ac CM rfl rfl rfl rfl Bl rfl rfl rfl hown (eC Ag) rfl Ab Ab rfl ?_);rintro c1 a1 c2 ab N;have c3:=N.size;revert I hbn;refine eF N ?_;intro I hbn;clear hown;revert hbr X;refine eF N ?_;intro hbr X;refine C1 Pg (eV [_] [_,_,_,_,_,_] hbn ?_);intro c4 c5 a2 c6;clear hbn;revert ab I hbr X;refine eF a2 ?_;intro ab I hbr X;refine Ah (Ae ?_)
    refine Aw (j,acc++[(Bu c.ts c.n σ').1],some ⟨_,0,none⟩,_,(Bu c.ts c.n σ').2) sB ⟨Ag,Ag,Ag,Ag,X,Ab,r,rfl,fun e=>by have:=hdr e;simp only;omega,by simp only;omega,fun e=>by have:=hdr e;simp only [aU,aV,aX];omega⟩ Bd
 rw [show Dl c.ts c.n (j+1) acc σ'=(acc,σ') from by rw [Dl];simp [hc]];simp only;have hm':=BC hle;have hat':=hP.at_;refine eK ?_;refine cC rfl (H7 _ _ _ Ag) ?_;rintro _ O ⟨⟨⟩,bv⟩;revert hP hbn hown hbr X;refine eY bv ?_;intro ej hP hbn hown hbr X;refine cT (Fp rfl Ag (CB (AG (AG (A8 (Ai (Aj (Ar ?_))))))));have hvs:VDs (fun b=>b9<b/\b<O.heap.size) O acc a:=(OwnL.vds (S:=(b9 < ·)) hown (fun b h=>h)).lt2;have hcap:=OwnL.cap hown;clear hown;refine AJ (ι:=Nat×List PD×oA×Nat×PS) (fun _=>[(0,.pointer (some ⟨c.pb,0,none⟩)),(2,.pointer (some ⟨b1,0,none⟩)),(3,.pointer (some ⟨b9,0,none⟩))])
  (fun x w'=>PP c x.2.2.2.2 w'/\Blk w' b9 [.slice a acc.length cap,.slice x.2.2.1 x.2.1.length x.2.2.2.1,.int .u8 0,.int .i64 0,.string ⟨#[]⟩,.slice none 0 0]/\OwnL Fh w' O.heap.size 90 (.slice x.2.2.1 x.2.1.length x.2.2.2.1) x.2.1/\VDs (fun b=>b9<b/\b<O.heap.size) w' acc a /\
   Blk w' b1 [.slice none 0 0,.slice none 0 0,.int .u8 0,.int .i64 0,.string ⟨#[]⟩,.slice none 0 0]/\Fr (· = c.pb) w w'/\O.heap.size<=w'.heap.size/\Le c.ts σ' x.2.2.2.2 /\
   B5 c.ts c.n k [] σ'=B5 c.ts c.n x.1 x.2.1 x.2.2.2.2/\(x.2.2.2.2.err=0->4*mS c.ts x.2.2.2.2+9<=x.1)/\1<=x.1/\x.1<=k/\(x.2.2.2.2.err=0->x.2.1.length+mS c.ts x.2.2.2.2<=1000001)) (fun x=>x.1) (k,[],none,0,σ') sB
  ⟨hP,hbn,OwnL.nil,hvs,hbr,X,bJ _,eU hat',rfl,fun _=>by simp only;omega,by simp only;omega,bJ _,fun _=>by simp only [aX];omega⟩ ?_
 rintro ⟨i,pacc,pa,pcap,ρ'⟩ w5 ⟨hP,hbn,d,hvs,hbr,X,ek,y,am,hfi,bw,hik,hpacc⟩;simp only at hP hbn d y am hfi bw hik hpacc;rw [am];clear he hfj hacc am;obtain ⟨i,rfl⟩ : ∃m,i=m+1:=⟨i-1,Ab⟩
 have hob : ∀g,(cP pa pacc.length pcap).ownBlock=some g->g<w5.heap.size:=fun g h=>d.lt h
 by_cases hp:(Ap c.ts ρ').text=[112,114,111,99]
 . have Q:B7 c.ts ρ' [112,114,111,99]=true:=by simp [B7,hp]
   have hin:=AN hP.at_ Q Az;have h0:=hin.1;have bn:=hfi h0;have bo:=hpacc h0;have bp:=Rh hin;by_cases h8:pacc.length=64
   . rw [show B5 c.ts c.n (i+1) pacc ρ'=B5 c.ts c.n i (pacc++[(De c.ts c.n i (Bw ρ' (Ap c.ts ρ').pos 5)).1]) (De c.ts c.n i (Bw ρ' (Ap c.ts ρ').pos 5)).2 from by rw [B5];simp [Q,h8]];have hfl:=BZ (show ρ'.at_<=c.ts.length from hP.at_) (Ap c.ts ρ').pos 5;have hfm:=BC hfl;have hdl:=hfl.trans (DS (n:=c.n) (k:=i) hfl.wf);have hdr:=JE hdl (Lt.of_le hfl (JF (n:=c.n) (k:=i) hfl.wf));have r:=y.trans hdl;refine eK ?_;refine cC rfl (Bg _ _ _ Ag) ?_;rintro _ el ⟨⟨⟩,bx⟩;revert hP hbn d hvs hbr X;refine eY bx ?_;intro em hP hbn d hvs hbr X;refine C1 (AR Ac rfl rfl rfl rfl rfl rfl) ?_;refine eK ?_;refine cC rfl (Bg _ _ _ Ag) ?_;rintro _ en ⟨⟨⟩,bz⟩;revert hP hbn d hvs hbr X;refine eY bz ?_;intro eo hP hbn d hvs hbr X;refine C1 (AR Ac rfl rfl rfl rfl rfl rfl) (cC rfl (FQ _ _ _ _ _ Ag) ?_);rintro _ a3 ⟨⟨⟩,⟨an,a4⟩⟩;have c7:=a4.size;clear hP;revert hbn d hvs hbr X;refine eF a4 ?_;intro hbn d hvs hbr X;refine cT (AC (fun wz=>Fr (· = c.pb) a3 wz) 5 (.pure 0 (.pure 1 (.pure 2 (.fork 3 (.fork 4 .tail .none) .none)))) mixed Bl (Al (Aa (Al (Aa An)))) ?_);intro a5 ac _;have l:(fun wz=>Fr (· = c.pb) a3 wz) a5:=eJ ac;simp only at l;have b0:=an;have o:=hbn;have R:=d;have ao:=hvs;have z:=hbr;revert an hbn d hvs hbr X;refine eY ac ?_;intro c8 an hbn d hvs hbr X;refine ⟨l,?_⟩;refine Tq rfl Pf (Tq rfl (Ax Ac rfl rfl rfl (fun wz hz=>dP (dQ o hz (by first|omega|(dsimp only;omega))) rfl)) (Tq rfl Mv ?_));refine tC rfl rfl (Vi c i _ _ Ag Ab) ?_
     rintro _ c9 ⟨b2,⟨b3,⟨b4,⟨b5,⟨⟨⟩,⟨da,⟨ad,⟨ae,⟨u,T⟩⟩⟩⟩⟩⟩⟩⟩⟩;have db:=T.size;have l:=l.fr T Ab;revert hbn d hvs hbr X;refine eF T ?_;intro hbn d hvs hbr X;refine ⟨l,?_⟩;refine A1 rfl (xS [_,_,_,_,_,_]) rfl ?_ aFh A7;rintro _ dc ⟨dd,rfl,D,de⟩;have df:=D.blk;have a6:=D.ext;have dg:=D.pos;have dh:=D.size;revert ad ae u l hbn d hvs hbr X;refine eE a6 ?_;intro ad ae u l hbn d hvs hbr X;refine ⟨l,?_⟩;refine AF rfl (BN (sh:=Fh) Ac CM rfl rfl rfl rfl Bl rfl rfl rfl d (eC Ag) ⟨_,_,_,_,rfl,VDs.wide Ag (fun b h=>⟨Ab,fun e=>by have:=hob _ e;omega⟩),dR Ag (fun b h=>⟨Ab,fun e=>by have:=hob _ e;omega⟩),Ag⟩ Ab Ab rfl ?_);rintro di a7 dj af U;have dk:=U.size;revert u hbn;refine eF U ?_;intro u hbn;clear d;revert hvs hbr X;refine eF U ?_;intro hvs hbr X;refine C1 Pf (eV [_] [_,_,_,_,_,_] hbn ?_);intro dl dm a8 dn;clear hbn;revert af u hvs hbr X;refine eF a8 ?_;intro af u hvs hbr X;refine Ah (Ae ?_);refine Aw (i,pacc++[(De c.ts c.n i (Bw ρ' (Ap c.ts ρ').pos 5)).1],some ⟨_,0,none⟩,_,(De c.ts c.n i (Bw ρ' (Ap c.ts ρ').pos 5)).2) sB ⟨Ag,Ag,Ag,Ag,Ag,X,Ab,r,rfl,fun e=>by have:=hdr e;simp only;omega,by simp only;omega,by simp only;omega,fun e=>by have:=hdr e;simp only [aU,aV,aX];omega⟩ Bd
   . rw [show B5 c.ts c.n (i+1) pacc ρ'=B5 c.ts c.n i (pacc++[(De c.ts c.n i ρ').1]) (De c.ts c.n i ρ').2 from by rw [B5];simp [Q,h8]];have hdl:=DS (n:=c.n) (k:=i) hP.at_;have hdr:=JE hdl (JF (n:=c.n) (k:=i) hP.at_);have r:=y.trans hdl;refine eK ?_;refine cC rfl (Bg _ _ _ Ag) ?_;rintro _ a9 ⟨⟨⟩,b6⟩;revert hP hbn d hvs hbr X;refine eY b6 ?_;intro ep hP hbn d hvs hbr X;refine C1 (AR Ac rfl rfl rfl rfl rfl rfl) ?_;refine eK ?_;refine AC (fun wz=>Fr (· = c.pb) a9 wz) 5 (.pure 0 (.pure 1 (.pure 2 (.fork 3 (.fork 4 .tail .none) .none)))) mixed Bl (Al (Aa (Al (Aa An)))) ?_;intro b7 ba _;have q:(fun wz=>Fr (· = c.pb) a9 wz) b7:=eJ ba;simp only at q;have az:=hP;have o:=hbn;have R:=d;have ao:=hvs;have z:=hbr;revert hP hbn d hvs hbr X;refine eY ba ?_;intro eq hP hbn d hvs hbr X;refine ⟨q,?_⟩;refine Tq rfl Pf (Tq rfl (Ax Ac rfl rfl rfl (fun wz hz=>dP (dQ o hz (by first|omega|(dsimp only;omega))) rfl)) (Tq rfl Mv ?_));refine tC rfl rfl (Vi c i _ _ Ag Ab) ?_;rintro _ dp ⟨dq,⟨b8,⟨ca,⟨cb,⟨⟨⟩,⟨dr,⟨ag,⟨ah,⟨v,V⟩⟩⟩⟩⟩⟩⟩⟩⟩;have ds:=V.size;have q:=q.fr V Ab;clear hP;revert hbn d hvs hbr X;refine eF V ?_;intro hbn d hvs hbr X;refine ⟨q,?_⟩;refine A1 rfl (xS [_,_,_,_,_,_]) rfl ?_ aFh A7
     rintro _ dt ⟨du,rfl,E,dv⟩;have dw:=E.blk;have bb:=E.ext;have dx:=E.pos;have dy:=E.size;revert ag ah v q hbn d hvs hbr X;refine eE bb ?_;intro ag ah v q hbn d hvs hbr X;refine ⟨q,?_⟩;refine AF rfl (BN (sh:=Fh) Ac CM rfl rfl rfl rfl Bl rfl rfl rfl d (eC Ag) ⟨_,_,_,_,rfl,VDs.wide Ag (fun b h=>⟨Ab,fun e=>by have:=hob _ e;omega⟩),dR Ag (fun b h=>⟨Ab,fun e=>by have:=hob _ e;omega⟩),Ag⟩ Ab Ab rfl ?_);rintro dz bc d0 ai W;have d1:=W.size;revert v hbn;refine eF W ?_;intro v hbn;clear d;revert hvs hbr X;refine eF W ?_;intro hvs hbr X;refine C1 Pf (eV [_] [_,_,_,_,_,_] hbn ?_);intro d2 d3 bd d4;clear hbn;revert ai v hvs hbr X;refine eF bd ?_;intro ai v hvs hbr X;refine Ah (Ae ?_);refine Aw (i,pacc++[(De c.ts c.n i ρ').1],some ⟨_,0,none⟩,_,(De c.ts c.n i ρ').2) sB ⟨Ag,Ag,Ag,Ag,Ag,X,Ab,r,rfl,fun e=>by have:=hdr e;simp only;omega,by simp only;omega,by simp only;omega,fun e=>by have:=hdr e;simp only [aU,aV,aX];omega⟩ Bd
 . have Q:B7 c.ts ρ' [112,114,111,99]=false:=by simp [B7,hp]
   rw [show B5 c.ts c.n (i+1) pacc ρ'=(pacc,ρ') from by rw [B5];simp [Q]];simp only;have be:=Aq (n:=c.n) (t:=[109,97,105,110]) y.wf Az;have er:=BC be;have es:=BC y;refine eK ?_;refine cC rfl (Bg _ _ _ Ag) ?_;rintro _ et ⟨⟨⟩,cc⟩;revert hP hbn d hvs hbr X;refine eY cc ?_;intro eu hP hbn d hvs hbr X;refine C1 (AR Ac rfl rfl rfl rfl rfl rfl) ?_;refine eK ?_;refine cC rfl (BU _ _ _ _ Ag Az) ?_;rintro _ ev ⟨⟨⟩,⟨ew,bf⟩⟩;have ex:=bf.size;clear hP;revert hbn d hvs hbr X;refine eF bf ?_;intro hbn d hvs hbr X;refine eK ?_;refine eQ rfl (Rk c k _ _ Ag Ab) ?_;rintro _ d5 ⟨ey,⟨ez,⟨⟨⟩,⟨F,⟨G,aj⟩⟩⟩⟩⟩;have d6:=aj.size;revert hbn d hvs hbr X;refine eF aj ?_;intro hbn d hvs hbr X;refine C1 Pf (eV [_,_,_,_] [_,_,_,_,_,_] hbn ?_);intro d7 ak bg d8;clear hbn;revert F G d hvs hbr X;refine eF bg ?_;intro F G d hvs hbr X;refine eK ?_;refine eS [_,_,_,_,_,_] hbr ?_;intro d9 bh bi ea;clear hbr;revert ak F G d hvs X;refine eF bi ?_;intro ak F G d hvs X;refine eK ?_;refine xC bh ?_;refine ⟨_,_,_,_,_,_,rfl,⟨⟨VDs.wide Ag (fun b h=>by omega),PDsC.pds (OwnL.pdsC d (fun b h=>by omega)),dR Ag (fun b h=>by omega)⟩,OwnL.pdsC d (fun b h=>by omega),hcap⟩,Ag,X⟩
def E8 {α:Type} (p:α->Bool) (l:List α):(l.takeWhile p).length<=l.length:=by
 induction l with
 | nil=>simp
 | cons x r f=>simp only [List.takeWhile_cons];split<;>simp;exact f
def Rl (s:lB):Iu s<=s.length:=by
 unfold Iu;split
 . rename_i h;rw [List.isPrefixOf_iff_prefix] at h;exact h.length_le
 . split
   . rename_i h;rcases s with _|⟨a,_|⟨b,r⟩⟩
     . exact absurd h Az
     . exfalso;simp [pairs] at h
     . simp
   . split
     . rename_i h;cases s with
       | nil=>simp at h
       | cons a r=>simp
     . omega
def KP (s:lB):(AO s).2<=s.length:=by
 cases s with
 | nil=>simp [AO]
 | cons c r=>
  simp only [AO,GX];split
  . exact E8 _ _
  . split
    . exact E8 _ _
    . split
      . exact E8 _ _
      . split
        . exact E8 _ _
        . exact Rl _
def L1 {α:Type} (p:α->Bool) (l:List α):l.take (l.takeWhile p).length=l.takeWhile p:=by
 induction l with
 | nil=>simp
 | cons x r f=>simp only [List.takeWhile_cons];split<;>simp [f]
def MS {α:Type} (p:α->Bool) (l:List α) : ∀x∈l.takeWhile p,p x=true:=by
 induction l with
 | nil=>simp
 | cons y r E=>
  simp only [List.takeWhile_cons];split
  . rename_i h;intro x f;rcases bR.1 f with rfl|f
    . exact h
    . exact E x f
  . simp
def Ox (c:UInt8) (h:Cz c=true):Cw c=false:=by
 simp only [Cz,Cw,bB,decide_eq_true_eq,Bool.and_eq_false_iff,decide_eq_false_iff_not] at h ⊢;omega
def Oy (s:lB) (h:(AO s).1=2):s.take (AO s).2≠[] /\ ∀x∈s.take (AO s).2,Cw x=true:=by
 cases s with
 | nil=>simp [AO] at h
 | cons c r=>
  simp only [AO] at h ⊢;by_cases h1:Cz c=true
  . simp [h1] at h
  . by_cases f:Cw c=true
    . simp only [h1,f,if_true,dH,if_false,GX];rw [L1];refine ⟨by simp [List.takeWhile_cons,f],MS _ _⟩
    . exfalso;simp only [h1,f,dH,if_false] at h;by_cases E:Hr c=true
      . simp [E] at h
      . by_cases F:c=35
        . subst F;simp [E] at h
        . simp [E,F] at h
def MT (s:lB) (F:s≠[]) (M:(AO s).2≠0):(AO s).1=2↔Eu (s.take (AO s).2)=true:=by
 cases s with
 | nil=>exact absurd rfl F
 | cons c r=>
  obtain ⟨m,L⟩ : ∃m,(AO (c::r)).2=m+1:=⟨(AO (c::r)).2-1,Ab⟩;rw [L];simp only [dE,Eu,AO];by_cases h1:Cz c=true
  . simp [h1,Ox c h1]
  . by_cases h:Cw c=true
    . simp [h1,h]
    . simp only [h1,h,dH,if_false,iff_false];by_cases f:Hr c=true
      . simp [f]
      . by_cases E:c=35
        . subst E;simp [f]
        . simp [f,E]
structure TokOk (n:Nat) (t:Tok):Prop where
 len:t.text.length<=n
 num:t.kind=2->t.text≠[] /\ ∀x∈t.text,Cw x=true
 dig:t.kind=2↔Eu t.text=true
 pos:0<=t.pos/\t.pos<=n
def P0 (s:lB) : ∀(k p:Nat) (acc:List Tok),(∀t∈acc,TokOk s.length t) -> ∀t∈(EF k s p acc).1,TokOk s.length t
 | 0,p,acc,h=>by rw [EF];exact h
 | k+1,p,acc,h=>by
  rw [EF];split
  . rename_i N;split
    . simp
    . rename_i L;refine P0 s k _ _ ?_;intro t f;rcases List.mem_append.1 f with f|f
      . exact h t f
      . simp only [dG] at f;subst f;have E:s.drop p≠[]:=by
         intro e;have:=congrArg List.length e;simp at this;omega
        refine ⟨?_,?_,?_,?_⟩
        . simp only [cH,List.length_drop];omega
        . intro M;have F:(AO (s.drop p)).1=2:=by simp only at M;omega
          exact Oy _ F
        . have:=MT (s.drop p) E L;simp only;rw [<-this];omega
        . simp only;omega
  . exact h
def Xf (s:lB) : ∀t∈(Gp s).1,TokOk s.length t:=by
 unfold Gp;split
 . simp
 . have:=P0 s (s.length+1) 0 [] Bd;split
   . rename_i l h;rw [h] at this;exact this
   . simp
def JG (s:lB) : ∀t∈(Cn s).1,TokOk s.length t:=fun t f=>Xf s t (List.mem_filter.1 f).1
def GD (s:lB):BG (Cn s).1:=fun t f=>(JG s t f).dig
def Nv (s:lB) : ∀(k p:Nat) (acc:List Tok),acc.length<=p->p<=s.length->(EF k s p acc).1.length<=s.length
 | 0,p,acc,h,f=>by rw [EF];simp;omega
 | k+1,p,acc,h,f=>by
  rw [EF];split
  . split
    . simp
    . rename_i E;have:=KP (s.drop p);rw [List.length_drop] at this;exact Nv s k _ _ (by simp;omega) Ab
  . simp only;omega
def P1 (s:lB):(Gp s).1.length<=s.length:=by
 unfold Gp;split
 . simp
 . have:=Nv s (s.length+1) 0 [] Bd Ab;split
   . rename_i l h;rw [h] at this;exact this
   . simp
def IB (s:lB):(Cn s).1.length<=s.length:=cD (List.length_filter_le _ _) (P1 s)
def Toks (S:nP) (w:wD) (l:List Tok) (a:oA):Prop:=Arr S 3 U6 w l a
def Toks.ext {S:nP} {w w':wD} {l:List Tok} {a:oA} (h:Toks S w l a) (x:Ext w w'):Toks S w' l a:=h.mono aFh (fun _ _ _ _ _ h=>Row.ext h x)
instance {S:nP} {w w':wD} {l:List Tok} {a:oA}:LfE w w' (Toks S w l a) (Toks S w' l a):=⟨fun x h=>Bk.Toks.ext h x⟩
def Toks.fr {S T:nP} {w w':wD} {l:List Tok} {a:oA} (h:Toks S w l a) (x:Fr T w w') (f : ∀b,S b -> ¬T b):Toks S w' l a:=h.mono aFh (fun b _ _ _ E h=>Row.fr h x (f b E))
instance {S T:nP} {w w':wD} {l:List Tok} {a:oA}:LfF T w w' (Toks S w l a) (∀b,S b -> ¬T b) (Toks S w' l a):=⟨fun x s h=>Bk.Toks.fr h x s⟩
def Toks.wide {S S':nP} {w:wD} {l:List Tok} {a:oA} (h:Toks S w l a) (f : ∀b,S b->S' b):Toks S' w l a:=h.mono f (fun _ _ _ _ _ h=>h)
def Toks.lt2 {S:nP} {w:wD} {l:List Tok} {a:oA} (h:Toks S w l a):Toks (fun b=>S b/\b<w.heap.size) w l a:=by
 rcases h with h|⟨b,o,h1,E,f⟩
 . exact bC h
 . cases l with
   | nil=>exact bC rfl
   | cons v r=>exact bF ⟨b,o,h1,⟨E,Cb (Row.at0 (f 0 v rfl) rfl)⟩,f⟩
def GE:Shape Tok where
 sz:=3
 rep:=fun _ _ v cs=>cs=v.cells
 len:=fun h=>by rw [h];rfl
 one:=fun h=>by rw [h];rfl
 mono:=fun h _ _=>h
 lt:=fun h=>h
def OwnL.toks {w:wD} {B e:Nat} {a:oA} {len cap:Nat} {xs:List Tok} {S:nP} (h:OwnL GE w B e (.slice a len cap) xs) (M : ∀b,B<=b->S b):Toks S w xs a:=by
 by_cases E:xs=[]
 . exact bC E
 . obtain ⟨g,F,L,N,f⟩:=h.rows E;simp only [bZ] at L;obtain ⟨rfl,-,-⟩:=L;refine bF ⟨g,0,rfl,M g N,fun i x O=>?_⟩;obtain ⟨cs,U,rfl⟩:=f i x O;simpa [GE,U6] using U
def St (t:lB) (w:wD) (f:t≠[]) (h:t.length<=9223372036854775807):Calls prog 46 #[str t] w fun e w'=>e = .returned (.tuple #[.int .u8 (AO t).1,.int .i64 (AO t).2])/\w=w':=by
 cases t with
 | nil=>exact absurd rfl f
 | cons c r=>exact R5 c r w h
def LexR (w:wD) (r:List Tok×Int×Int):Ending->wD->Prop:=fun e w'=> ∃a k,e = .returned (.tuple #[.slice a r.1.length k,.int .i64 r.2.1,.int .i64 r.2.2])/\Toks (fun b=>w.heap.size<=b/\b<w'.heap.size) w' r.1 a/\Ext w w'
def LexR.ret {w:wD} {r:List Tok×Int×Int} {e:Ending} {w':wD} (h:LexR w r e w') : ∃v,e = .returned v:=by
 obtain ⟨_,_,h,-⟩:=h;exact ⟨_,h⟩
def Zt (s:lB) (w:wD) (hs:s.length<=1000000):Calls prog 157 #[str s] w (LexR w (Gp s)):=by
 have X:=dI w;by_cases h0:65536<s.length
 . rw [show Gp s=([],0,5) from by simp [Gp,h0]];refine Af func157 ntmps157 rfl rfl ?_;refine eK ?_;refine E4 rfl rfl rfl rfl ?_;exact ⟨_,_,rfl,bC rfl,X⟩
 have M : ∀r,EF (s.length+1) s 0 []=r->Gp s=match r with|(l,none)=>(l,0,0)|(_,some p)=>([],(p:Int),3):=fun r hr=>by
  obtain ⟨l,o⟩:=r;cases o<;>simp [Gp,h0,hr]
 have HU:=bA M;clear M;refine Af func157 ntmps157 rfl rfl ?_;refine cS (C1 Pa (C1 Pa (C1 Pa (cT (Aj (cS (C1 Mv (C1 Py (C1 V5 (cT (C9 ?_)))))))))));refine As (Ai (cS (C1 Pa (cT (Aj (cS (C1 Pa (cT (Ar ?_)))))))));refine AJ (ι:=Nat×Nat×List Tok×oA×Nat) (fun x=>[(0,str s),(5,.slice x.2.2.2.1 x.2.2.1.length x.2.2.2.2),(6,.int .i64 x.2.1)])
  (fun x w'=>OwnL GE w' w.heap.size 223 (.slice x.2.2.2.1 x.2.2.1.length x.2.2.2.2) x.2.2.1/\Ext w w'/\x.2.1<=s.length/\x.2.2.1.length<=x.2.1/\s.length+1<=x.1+x.2.1 /\
   EF (s.length+1) s 0 []=EF x.1 s x.2.1 x.2.2.1) (fun x=>x.1) (s.length+1,0,[],none,0) sB ⟨OwnL.nil,X,bI _,bJ _,bJ _,rfl⟩ ?_
 rintro ⟨j,p,acc,a,cap⟩ w1 ⟨f,X,hp,N,hj,V⟩;simp only at f hp N hj V;refine fM (m:=[(0,str s),(5,.slice a acc.length cap),(6,.int .i64 p)]) ?_ sB;obtain ⟨j,rfl⟩ : ∃i,j=i+1:=⟨j-1,Ab⟩
 by_cases L:p<s.length
 . have O:s.drop p≠[]:=by
    intro e;have:=congrArg List.length e;simp at this;omega
   have Y:(s.drop p).length=s.length-p:=List.length_drop;have Z:=KP (s.drop p);rw [Y] at Z;by_cases hz:(AO (s.drop p)).2=0
   . rw [HU.out ([],some p) (by rw [V,EF];simp [L,hz])];refine eK ?_;refine C1 (FH Ac rfl rfl rfl Ab) (cC rfl (St _ _ O Ab) ?_);rintro _ ah ⟨⟨⟩,rfl⟩;refine eK ?_;refine E4 rfl rfl rfl rfl ?_;exact ⟨_,_,rfl,bC rfl,X⟩
   . have aa:EF (s.length+1) s 0 []=EF j s (p+(AO (s.drop p)).2) (acc++[⟨((AO (s.drop p)).1:Nat),(s.drop p).take (AO (s.drop p)).2,(p:Int)⟩]):=by rw [V,EF];simp [L,hz]
     refine eK ?_;refine C1 (FH Ac rfl rfl rfl Ab) (cC rfl (St _ _ O Ab) ?_);rintro _ ai ⟨⟨⟩,rfl⟩;refine eK ?_;refine C1 (QT Ac rfl rfl rfl rfl Ab) (C1 Mv (C1 (xB [_,_,_]) ?_));refine Au (xS [_,_,_]) rfl ?_ aFh;rintro _ aj ⟨ak,rfl,E,al⟩;have ab:=E.blk;have ac:=E.ext;have am:=E.pos;have an:=E.size;revert f X;refine eE ac ?_;intro f X;refine BN (sh:=GE) (z:=⟨((AO (s.drop p)).1:Nat),(s.drop p).take (AO (s.drop p)).2,(p:Int)⟩) Ac CM rfl rfl rfl rfl Bl rfl rfl rfl f (eC Ag) rfl Ab (by have:=Ext.size X;omega) rfl ?_;rintro ad U ae af F;have ag:=F.size;clear ab f;have X:=X.fr F Ab;refine C1 Pa (cT (Ad (C1 Mv (C1 Mv (C1 V7 (C1 Pa (Ah (Ae ?_))))))));refine Aw (j,p+(AO (s.drop p)).2,acc++[⟨((AO (s.drop p)).1:Nat),(s.drop p).take (AO (s.drop p)).2,(p:Int)⟩],some ⟨_,0,none⟩,_) sB ⟨Ag,X,by simp only;omega,by simp only [aU,aV,aX];omega,by simp only;omega,aa⟩ Bd
 . rw [HU.out (acc,none) (by rw [V,EF];simp [L])];refine eK ?_;refine E4 rfl rfl rfl rfl ?_;exact ⟨_,_,rfl,Toks.lt2 (S:=(w.heap.size <= ·)) (OwnL.toks f (fun b h=>h)),X⟩
def Rm (l:List Tok) (t:Tok):Ek (l++[t])=Ek l++(if t.kind≠4/\t.kind≠5 then [t] else []):=by
 unfold Ek;rw [List.filter_append];congr 1;by_cases f:t.kind=4<;>by_cases h:t.kind=5<;>simp [f,h]
def SolidR (w:wD) (r:List Tok):Ending->wD->Prop:=fun e w'=> ∃a k,e = .returned (.slice a r.length k)/\Toks (fun b=>w.heap.size<=b/\b<w'.heap.size) w' r a/\Ext w w'
def SolidR.ret {w:wD} {r:List Tok} {e:Ending} {w':wD} (h:SolidR w r e w') : ∃v,e = .returned v:=by
 obtain ⟨_,_,h,-⟩:=h;exact ⟨_,h⟩
def Xg (ts:List Tok) (S:nP) (V:oA) (k0:Nat) (w:wD) (hl:ts.length<=1000000) (F:Toks S w ts V) (hS : ∀b,S b->b<w.heap.size):Calls prog 158 #[.slice V ts.length k0] w (SolidR w (Ek ts)):=by
 have X:=dI w;refine Af func158 ntmps158 rfl rfl ?_;refine cS (C1 Pa (cN (C1 Pa (cT (Aj (cS (C1 Mv (C1 Pz (C1 Mv (cT (Ar ?_)))))))))));refine AJ (ι:=Nat×oA×Nat) (fun x=>[(3,.slice x.2.1 (Ek (ts.take x.1)).length x.2.2),(6,.slice V ts.length k0),(7,.int .i64 ts.length),(8,.int .i64 x.1)])
  (fun x w'=>OwnL GE w' w.heap.size 223 (.slice x.2.1 (Ek (ts.take x.1)).length x.2.2) (Ek (ts.take x.1))/\Ext w w'/\x.1<=ts.length/\Toks S w' ts V) (fun x=>ts.length-x.1) (0,none,0) sB ⟨OwnL.nil,X,bI _,F⟩ ?_
 rintro ⟨j,a,cap⟩ w1 ⟨f,X,hj,F⟩;simp only at f hj F;have ax:=X.size;refine fM (m:=[(3,.slice a (Ek (ts.take j)).length cap),(6,.slice V ts.length k0),(7,.int .i64 ts.length),(8,.int .i64 j)]) ?_ sB;by_cases Y:j<ts.length
 . have Z:ts.take (j+1)=ts.take j++[ts[j]]:=by rw [List.take_add_one,aY Y];rfl
   have E:Ek (ts.take (j+1))=Ek (ts.take j)++(if ts[j].kind≠4/\ts[j].kind≠5 then [ts[j]] else []):=by rw [Z,Rm]
   have ay:(Ek (ts.take j)).length<=1000000:=cD (List.length_filter_le _ _) (by rw [cH];omega);obtain ⟨tb,ae,rfl,af,O⟩:=F.get Ab;have N:Row w1 ⟨tb,ae+j*3,none⟩ ts[j].cells:=O j _ (aY Y);have az:=hS tb af;clear O Z;generalize ts[j]=t at *;by_cases h4:t.kind=4
   . rw [show (if t.kind≠4/\t.kind≠5 then [t] else [])=[] from by simp [h4],List.append_nil] at E;refine eK ?_;refine xA [_,_,_] ?_;intro a0 a1 ag;refine eI [_,_,_] ag ?_;intro a2 ah ai a3 a4;revert f X F N;refine eE ai ?_;intro f X F N;refine cN (C1 Pg (C1 (Pl ah) (C1 V2 (C1 Mv (ZW (ZW (ZW (C1 OQ (cT (Da rfl (As ?_)))))))))));refine Ae (Ai (Ad (C1 V7 (C1 Mv (Ah ?_)))));refine Aw (j+1,a,cap) ?_ ⟨by rw [E];exact f,X,by simp only;omega,F⟩ (by simp only;omega);refine AW rfl (by rw [E]) sB
   by_cases h5:t.kind=5
   . rw [show (if t.kind≠4/\t.kind≠5 then [t] else [])=[] from by simp [h5],List.append_nil] at E;refine eK ?_;refine xA [_,_,_] ?_;intro a5 a6 aj;refine eI [_,_,_] aj ?_;intro a7 aa ak a8 a9;revert f X F N;refine eE ak ?_;intro f X F N;refine cN (C1 Pg (C1 (Pl aa) (C1 V2 (C1 Mv (ZV (C1 Pg (ZV (C1 (Pl aa) (ZV (C1 V2 (C1 SZ ?_)))))))))));refine cT (C9 (As (Ae (Ai (Ad (C1 V7 (C1 Mv (Ah ?_))))))));refine Aw (j+1,a,cap) ?_ ⟨by rw [E];exact f,X,by simp only;omega,F⟩ (by simp only;omega);refine AW rfl (by rw [E]) sB
   . rw [show (if t.kind≠4/\t.kind≠5 then [t] else [])=[t] from by simp [h4,h5]] at E;refine eK ?_;refine xA [_,_,_] ?_;intro ba bb al;refine eI [_,_,_] al ?_;intro bc U am bd be;revert f X F N;refine eE am ?_;intro f X F N;refine eK ?_;refine Au (xS [_,_,_]) rfl ?_ aFh;rintro _ an ⟨bf,rfl,L,ao⟩;have ab:=L.blk;have ac:=L.ext;have ap:=L.pos;have aq:=L.size;revert U f X F N;refine eE ac ?_;intro U f X F N;refine BN (sh:=GE) (z:=t) Ac CM rfl rfl rfl rfl Bl rfl rfl rfl f (eC Ag) rfl Ab Ab rfl ?_;rintro ar ad au av M;have aw:=M.size;clear ab U f;have X:=X.fr M Ab;have F:=Toks.fr F M (fun k hk e=>by have:=hS k hk;omega);have N:=Row.fr N M (by simp only;omega);refine C1 Pa (Ah (Ae (Ai (Ad (C1 V7 (C1 Mv (Ah ?_)))))));refine Aw (j+1,some ⟨_,0,none⟩,_) ?_ ⟨by rw [E];assumption,X,by simp only;omega,F⟩ (by simp only;omega);refine AW rfl (by rw [E]) sB
 . have:j=ts.length:=by omega
   subst this;rw [bH] at f;refine eK ?_;refine xR ?_;rw [bH];exact ⟨_,_,rfl,Toks.lt2 (S:=(w.heap.size <= ·)) (OwnL.toks f (fun b h=>h)),X⟩
section
variable {P:Program} {n:Nat} {ops:Array Oper} {Q:Exit->Act->wD->Prop} {rest:List Oper} {l:Sl} {w:wD} {tab:Tab} {ty:TypeId} {pos:String} {after:Array Edge}
def TI {x y z:Operand} {t kt e sz1 sz2 r:Nat} {k:lB} {v:Value} {kvs:List (lB×Value)} (T:TabOk P tab) (ht:AD tab t=some (.map kt e,sz1)) (hkt:AD tab kt=some (.str,sz2)) (hx:ev l x=some (.map (some r))) (hy:ev l y=some (str k)) (hz:ev l z=some v) (hm:MapIs w r kvs)
 (kk : ∀w1,MapIs w1 r (K6 kvs k v)->Fr (· = r) w w1->LW P n ops Q rest l w1):LW P n ops Q (⟨none,.mapUpdate t x y z,ty,pos,after,none⟩::rest) l w:=by
 refine DA (K:=Yo w r (K6 kvs k v)) ?_ (fun v w1 h=>by cases v with|none=>exact kk w1 h.1 h.2.1|some _=>exact h.elim);unfold Cr;intro a dst pos after g next Q ha _ hn;obtain ⟨w1,h1,h2,h3,h4⟩:=MJ (P:=P) (k:=k) (v:=v) T ht hkt hm;have e1:(execOp a.eval ⟨dst,.mapUpdate t x y z,ty,pos,after,g⟩).run P w = .ok .skip w1:=by
  simp only [execOp,ha.ev hx,ha.ev hy,ha.ev hz,bL,h1,bG,bW]
 unfold Oper.wp;rw [e1];exact hn w1 ⟨h2,h3,h4⟩
def Rn {t d:Nat} (h:bM d n=true) (k : ∀r f,r=w.heap.size->MapIs f r []->Ext w f->f.heap.size=r+1->LW P n ops Q rest ((d,.map (some r))::l) f):LW P n ops Q (⟨some d,.makeMap t none,ty,pos,after,none⟩::rest) l w:=
 Au NW h (fun v f ⟨r,h1,h2,h3,h4,h5⟩=>by subst h1;exact k r f h2 h3 h4 h5) aFh
end
def u8Shape:Shape Int where
 sz:=1
 rep:=fun _ _ v cs=>cs=[.int .u8 v]
 len:=fun h=>by rw [h];rfl
 one:=fun h=>by rw [h];rfl
 mono:=fun h _ _=>h
 lt:=fun h=>h
def Kh (j:Nat):List Int:=(List.range j).map fun (i:Nat)=>(8:Int)+(i:Int)
def TJ (j:Nat):Kh (j+1)=Kh j++[8+(j:Int)]:=by simp [Kh,List.range_succ]
def P2 (j:Nat):(Kh j).length=j:=by simp [Kh]
def OpsR (w:wD):Ending->wD->Prop:=fun e w'=> ∃b k,e = .returned (.slice (some ⟨b,0,none⟩) 16 k)/\w.heap.size<=b/\b<w'.heap.size/\Row w' ⟨b,0,none⟩ ((Kh 16).map (.int .u8 ·))/\Ext w w'
def OpsR.ret {w:wD} {e:Ending} {w':wD} (h:OpsR w e w') : ∃v,e = .returned v:=by
 obtain ⟨_,_,h,-⟩:=h;exact ⟨_,h⟩
def P3 (w:wD):Calls prog 159 #[] w (OpsR w):=by
 have X:=dI w;refine Af (args:=[]) func159 ntmps159 rfl rfl ?_;refine cS (C1 Pa (cN (C1 Pa (cT (Aj (cS (C1 Pa (cT (Ar ?_)))))))));refine AJ (ι:=Nat×oA×Nat) (fun x=>[(1,.slice x.2.1 (Kh x.1).length x.2.2),(2,.int .u8 (8+(x.1:Int)))])
  (fun x w'=>OwnL u8Shape w' w.heap.size 5 (.slice x.2.1 (Kh x.1).length x.2.2) (Kh x.1)/\Ext w w'/\x.1<=16) (fun x=>16-x.1) (0,none,0) sB ⟨OwnL.nil,X,bI _⟩ ?_
 rintro ⟨j,a,cap⟩ w1 ⟨f,X,hj⟩;simp only at f hj;have ab:=X.size;have hl:=P2 j;refine fM (m:=[(1,.slice a (Kh j).length cap),(2,.int .u8 (8+(j:Int)))]) ?_ sB;by_cases ac:j<16
 . have F:=TJ j;refine eK ?_;refine Au (xS [_]) rfl ?_ aFh;rintro _ ad ⟨ae,rfl,h,af⟩;have O:=h.blk;have U:=h.ext;have ag:=h.pos;have ah:=h.size;revert f X;refine eE U ?_;intro f X;refine BN (sh:=u8Shape) (z:=8+(j:Int)) Ac CM rfl rfl rfl rfl Bl rfl rfl rfl f (eC Ag) rfl Ab Ab rfl ?_;rintro ai L V Y E;have Z:=E.size;clear O f;have X:=X.fr E Ab;refine eK ?_;refine C1 (NT rfl rfl (Wz _ Ab Ab)) (C1 Pa (Ah ?_));refine Aw (j+1,some ⟨_,0,none⟩,_) ?_ ⟨by rw [F];assumption,X,by simp only;omega⟩ (by simp only;omega);refine AW rfl (by rw [F]) (AW rfl ?_ AY);simp only [Value.int.injEq,true_and];omega
 . have:j=16:=by omega
   subst this;refine eK ?_;refine xR ?_;obtain ⟨g,aa,hv,hg,M⟩:=f.rows Az;simp only [bZ] at hv;obtain ⟨rfl,-,-⟩:=hv;have N:Row w1 ⟨g,0,none⟩ ((Kh 16).map (.int .u8 ·)):=fun i v hi=>by
    rw [List.getElem?_map,Option.map_eq_some_iff] at hi;obtain ⟨x,hx,rfl⟩:=hi;obtain ⟨cs,hr,rfl⟩:=M i x hx;have:=hr.at0 rfl;have e:(⟨g,0,none⟩:Addr).add i=⟨g,i*u8Shape.sz,none⟩:=by
     have:u8Shape.sz=1:=rfl;unfold cU;by_cases h0:i=0<;>simp [h0,this]
    rw [e];exact this
   exact ⟨g,cap,by rw [P2],hg,f.lt rfl,N,X⟩
def P4 (c:PC) (σ:PS) (w:wD) (F:PP c σ w) :
 Calls prog 115 #[.pointer (some ⟨c.pb,0,none⟩)] w fun r w'=>r = .returned (.tuple #[])/\PP c (DK c.ts c.n σ) w'/\Fr (· = c.pb) w w':=by
 have X:=eG (· = c.pb) w;have Z:=F.pbB;have hB:=F.B;by_cases h:σ.at_<c.ts.length
 . rw [show DK c.ts c.n σ=CU c.ts c.n σ from by simp [DK,h]];refine Af func115 ntmps115 rfl rfl ?_;refine Aj (AC (fun E=>Ext w E) 9 (.pure 0 (.pure 1 (.pure 2 (.pure 3 (.pure 4 (.pure 5 (.pure 6 (.pure 7 (.pure 8 .tail))))))))) mixed Bl (Aa An) ?_);intro w1 V _;have N:(fun E=>Ext w E) w1:=V;simp only at N;have f:=F;revert F X;refine eY V ?_;intro z4 F X;refine ⟨N,?_⟩;refine eT ?_;refine Tq rfl (Ax Ac rfl rfl rfl (fun E M=>dP (dV (PP.blk f) M) rfl)) ?_;refine eT ?_;refine Tq rfl (Ax Ac rfl rfl rfl (fun E M=>dP (dV (PP.blk f) M) rfl)) (Tq rfl Pz ?_);refine AF rfl ?_;refine eK ?_;refine cC rfl (D5 _ _ _ Ag) ?_;rintro _ w7 ⟨⟨⟩,⟨h5,Y⟩⟩;have z8:=Y.size;clear F;have X:=X.fr Y Ab;refine Ah (Bn rfl ?_);exact ⟨rfl,Ag,X⟩
 . rw [show DK c.ts c.n σ=σ from by simp [DK,h]];refine Af func115 ntmps115 rfl rfl ?_;refine Aj (AC (fun E=>Ext w E) 9 (.pure 0 (.pure 1 (.pure 2 (.pure 3 (.pure 4 (.pure 5 (.pure 6 (.pure 7 (.pure 8 .tail))))))))) mixed Bl (Aa An) ?_);intro U O _;have L:(fun E=>Ext w E) U:=O;simp only at L;have f:=F;revert F X;refine eY O ?_;intro aa F X;refine ⟨L,?_⟩;refine eT ?_;refine Tq rfl (Ax Ac rfl rfl rfl (fun E M=>dP (dV (PP.blk f) M) rfl)) ?_;refine eT ?_;refine Tq rfl (Ax Ac rfl rfl rfl (fun E M=>dP (dV (PP.blk f) M) rfl)) (Tq rfl Pz ?_);refine AF rfl (C1 V3 (cT (C9 (As (Bn rfl ?_)))));exact ⟨rfl,Ag,X⟩
def Vj (j:Nat) (h:j<16):K6 (binMap.take j) (BQ (8+(j:Int))) (.int .u8 (8+(j:Int)))=binMap.take (j+1):=by
 have:j=0\/j=1\/j=2\/j=3\/j=4\/j=5\/j=6\/j=7\/j=8\/j=9\/j=10\/j=11\/j=12\/j=13\/j=14\/j=15:=by omega
 rcases this with rfl|rfl|rfl|rfl|rfl|rfl|rfl|rfl|rfl|rfl|rfl|rfl|rfl|rfl|rfl|rfl<;>rfl
def StartR (s:lB) (w:wD):Ending->wD->Prop:=fun e w'=> ∃c:PC,e = .returned (.pointer (some ⟨c.pb,0,none⟩))/\(c.ts=(Cn s).1/\c.n=s.length/\w.heap.size<=c.pb)/\PP c (Cn s).2 w'/\Ext w w'/\c.B<=w'.heap.size
def StartR.ret {s:lB} {w:wD} {e:Ending} {w':wD} (h:StartR s w e w') : ∃v,e = .returned v:=by
 obtain ⟨_,h,-⟩:=h;exact ⟨_,h⟩
def Syms.lt {w:wD} (h:Syms w):1<w.heap.size:=Cb (h.sym 0 Ab)
def Errs.lt {w:wD} (h:Errs w):4<w.heap.size:=by
 obtain ⟨f,E,h⟩:=h.ex;exact Cb h
def Xh (s:lB) (w:wD) (hs:s.length<=1000000) (F:Syms w) (E:Errs w):Calls prog 113 #[str s] w (StartR s w):=by
 have X:=dI w;have ax:=F.lt;have ay:=E.lt;have az:=P1 s;refine Af func113 ntmps113 rfl rfl ?_;refine eK ?_;refine eQ rfl (Zt _ _ Ab) ?_;rintro _ w5 ⟨a1,⟨k2,⟨⟨⟩,⟨O,x4⟩⟩⟩⟩;revert F E X;refine eY x4 ?_;intro z6 F E X;refine eK ?_;refine eQ rfl (Xg _ _ _ _ _ Ab Ag (by intro b h;exact h.2)) ?_;rintro _ ae ⟨a7,⟨k8,⟨⟨⟩,⟨U,af⟩⟩⟩⟩;revert O F E X;refine eY af ?_;intro a0 O F E X;refine C1 Mv (C1 Py (Rn rfl ?_));rintro a2 a3 rfl L ag a4;revert U O F E X;refine eY ag ?_;intro a5 U O F E X;refine eK ?_;refine C1 (xB [_,_,_,_,_,_]) (eB [_,_,_,_,_,_] ?_);intro V a6 Y ah a8 a9;revert L U O F E X;refine eE ah ?_;intro L U O F E X;refine eK ?_;refine eQ rfl (P3 _) ?_;rintro _ ai ⟨Z,⟨aj,⟨⟨⟩,⟨ba,⟨bb,⟨ak,al⟩⟩⟩⟩⟩⟩;revert Y L U O F E X;refine eY al ?_;intro bc Y L U O F E X;refine C1 Pz (C1 Mv (cT (Ar ?_)));generalize hr:ae.heap.size=r at *;refine AJ (ι:=Nat) (fun j=>[(6,.pointer (some ⟨V,0,none⟩)),(24,.slice (some ⟨Z,0,none⟩) 16 aj),(25,.int .i64 16),(26,.int .i64 j)])
  (fun j w'=>j<=16/\MapIs w' r (binMap.take j)/\Row w' ⟨Z,0,none⟩ ((Kh 16).map (.int .u8 ·))/\Blk w' V [.slice a7 (Ek (Gp s).1).length k8,.int .i64 0,.int .i64 s.length,.map (some r),.int .i64 (Gp s).2.1,.int .i64 (Gp s).2.2] /\
   Toks (fun b=>w5.heap.size<=b/\b<r) w' (Ek (Gp s).1) a7/\Syms w'/\Errs w'/\Ext w w'/\ai.heap.size<=w'.heap.size) (fun j=>16-j) 0 sB ⟨bI _,L,ak,Y,U,F,E,X,bJ _⟩ ?_
 rintro j w1 ⟨hj,hM,f,hb,hT,F,E,X,hz⟩;by_cases am:j<16
 . have M:Row w1 ⟨Z,0+j*1,none⟩ [.int .u8 (8+(j:Int))]:=by
    have h1:=f.sub j 1;have e:(((Kh 16).map (.int .u8 ·)).drop j).take 1=[Value.int .u8 (8+(j:Int))]:=by
     have:j=0\/j=1\/j=2\/j=3\/j=4\/j=5\/j=6\/j=7\/j=8\/j=9\/j=10\/j=11\/j=12\/j=13\/j=14\/j=15:=by omega
     rcases this with rfl|rfl|rfl|rfl|rfl|rfl|rfl|rfl|rfl|rfl|rfl|rfl|rfl|rfl|rfl|rfl<;>rfl
    rw [e] at h1;rw [Nat.mul_one];exact h1
   have aa:=Vj j am;refine eK ?_;refine AC (fun wz=>Ext w1 wz) 7 (.pure 0 (.pure 1 (.pure 2 (.pure 3 (.pure 4 (.pure 6 (.fork 5 .tail .none))))))) mixed Bl (Al (Aa (Aa (Al (Aa An))))) ?_;intro an ab _;have N:(fun wz=>Ext w1 wz) an:=ab;simp only at N;have ap:=hM;have ad:=f;have aq:=hb;have ar:=hT;have au:=F;have av:=E;have ao:=M;revert hM f hb hT F E X M;refine eY ab ?_;intro bd hM f hb hT F E X M;refine ⟨N,?_⟩;refine eT ?_;refine tC rfl rfl (Ht _ _ Ab Ab Ag) ?_;rintro _ be ⟨⟨⟩,rfl⟩;refine ⟨N,?_⟩;refine AF rfl (TI Ac rfl rfl rfl rfl rfl hM ?_);rintro bf bg ac;have aw:=ac.size;clear hM;revert f hb hT F E X M;refine eF ac ?_;intro f hb hT F E X M;refine Ah (Ae (Ai (Ad (C1 V7 (C1 Mv (Ah ?_))))));refine Aw (j+1) sB ⟨Ab,by rw [<-aa];assumption,f,hb,hT,F,E,X,Ab⟩ Ab
 . have:j=16:=by omega
   subst this;refine eK ?_;refine xR ?_;have bh:=X.size;refine ⟨⟨V,w1.heap.size,Ek (Gp s).1,s.length,a7,k8,r⟩,rfl,⟨rfl,rfl,by simp only;omega⟩,?_,X,bJ _⟩;refine ⟨hb,hT.wide (fun b h=>⟨by simp only;omega,by simp only;omega⟩),hM,by simp only;omega,by simp only;omega,by simp only;omega,bJ _,bI _,?_,fun t ht=>?_,fun t ht=>(JG s t ht).num,E,by simp only;omega⟩
   . exact cD (IB s) hs
   . exact cD (JG s t ht).len hs
def Xi {c:PC} {s:lB} (h:c.ts=(Cn s).1) (σ:PS):4*mS c.ts σ+20<=Gq s:=by
 have h1:=IB s;have f:mS c.ts σ<=c.ts.length:=by unfold mS;split<;>omega
 rw [h] at f;unfold Gq;rw [h];omega
def ParsePRC (w:wD) (r:PG×Int×Int):Ending->wD->Prop:=fun e w'=> ∃va vc pa pc ma mc,e = .returned (.tuple #[.agg (r.1.cells va vc pa pc ma mc).toArray,.int .i64 r.2.1,.int .i64 r.2.2])/\r.1.sits (w.heap.size <= ·) w' va pa ma/\PDsC (w.heap.size <= ·) w' r.1.procs pa/\r.1.vars.length<=vc/\Ext w w'
def ParsePRC.ret {w:wD} {r:PG×Int×Int} {e:Ending} {w':wD} (h:ParsePRC w r e w') : ∃v,e = .returned v:=by
 obtain ⟨_,_,_,_,_,_,h,-⟩:=h;exact ⟨_,h⟩
def PG.sits.wide {S S':nP} {w:wD} {g:PG} {E F L:oA} (h:g.sits S w E F L) (f : ∀b,S b->S' b):g.sits S' w E F L:=⟨h.vars.wide f,h.procs.wide f,h.main.wide f⟩
section
variable {ts:List Tok} {n:Int}
end
def Ro (s:lB) (w:wD) (hs:s.length<=1000000) (hS:Syms w) (hE:Errs w):Calls prog 72 #[str s] w (ParsePRC w (Bf s)):=by
 have X:=dI w;refine Af func72 ntmps72 rfl rfl ?_;refine cS (eA [_,_,_,_,_,_] ?_);intro b1 w2 F x6 p7 z8;revert hS hE X;refine eE x6 ?_;intro hS hE X;refine eK ?_;refine eQ rfl (Xh s _ hs Ag Ag) ?_;rintro _ b4 ⟨c9,⟨⟨⟩,⟨⟨ak,⟨ax,b5⟩⟩,⟨ac,⟨ay,b6⟩⟩⟩⟩⟩;revert F hS hE X;refine eY ay ?_;intro b7 F hS hE X;refine C1 Pa (cN (C1 Mv ?_));have hf:=Xi ak (Cn s).2;have b8:=ac.at_;have a2:=ac.len;have b9:=ac.pbB;have hB:=ac.B;have az:Bf s=if (DK c9.ts c9.n (BH c9.ts c9.n (Gq s) (Cn s).2).2).err≠0 then (⟨[],[],BI⟩,(DK c9.ts c9.n (BH c9.ts c9.n (Gq s) (Cn s).2).2).off,(DK c9.ts c9.n (BH c9.ts c9.n (Gq s) (Cn s).2).2).err) else ((BH c9.ts c9.n (Gq s) (Cn s).2).1,0,0):=by
  unfold Bf;rw [ak,ax]
 rw [az];by_cases he:(DK c9.ts c9.n (BH c9.ts c9.n (Gq s) (Cn s).2).2).err=0
 . rw [AE (fun h=>h he)];refine eQ rfl (Nu c9 (Gq s) _ _ Ag Ab) ?_;rintro _ a3 ⟨a4,⟨a5,⟨a6,⟨a7,⟨a8,⟨a9,⟨⟨⟩,⟨⟨V,⟨Y,ca⟩⟩,⟨ad,Z⟩⟩⟩⟩⟩⟩⟩⟩⟩;have ba:=Z.size;have F:=F.fr Z Ab;clear hS hE;have X:=X.fr Z Ab;refine xA [_,_,_,_,_,_] ?_;intro bb bc al;refine eI [_,_,_,_,_,_] al ?_;intro bd N am be bf;revert V Y ad F X;refine eE am ?_;intro V Y ad F X;refine eK ?_;refine cC rfl (P4 _ _ _ Ag) ?_;rintro _ bg ⟨⟨⟩,⟨an,ae⟩⟩;revert N V Y;refine eZ ae ?_;intro bh N V Y;revert F X;refine eF ae ?_;intro F X;refine cT (Aj (cS (C1 Mv (C1 Pn (C1 Pf (C1 (Pl (PP.blk an)) ?_))))));refine eK ?_;refine eS [_,_,_,_,_,_] F ?_;intro bi ao ap bj;revert N V Y X;refine eF ap ?_;intro N V Y X;refine eK ?_;refine CO rfl Ac rfl rfl rfl ao rfl rfl rfl ?_;exact ⟨_,_,_,_,_,_,rfl,PG.sits.wide Ag (fun b h=>by omega),PDsC.wide Ag (fun b h=>by omega),Ag,X⟩
 . rw [AU he];refine eQ rfl (Nu c9 (Gq s) _ _ Ag Ab) ?_;rintro _ bk ⟨bl,⟨bm,⟨bn,⟨bo,⟨bp,⟨bq,⟨⟨⟩,⟨⟨L,⟨M,cb⟩⟩,⟨af,aa⟩⟩⟩⟩⟩⟩⟩⟩⟩;have br:=aa.size;have F:=F.fr aa Ab;clear hS hE;have X:=X.fr aa Ab;refine xA [_,_,_,_,_,_] ?_;intro bs bt aq;refine eI [_,_,_,_,_,_] aq ?_;intro bu f ar bv bw;revert L M af F X;refine eE ar ?_;intro L M af F X;refine eK ?_;refine cC rfl (P4 _ _ _ Ag) ?_;rintro _ ag ⟨⟨⟩,⟨O,ah⟩⟩;revert f L M;refine eZ ah ?_;intro bx f L M;revert F X;refine eF ah ?_;intro F X;refine cT (Aj (cS (C1 Mv (C1 Pn (C1 Pf (C1 (Pl (PP.blk O)) ?_))))));refine eK ?_;refine AC (fun wz=>Fr (fun x=>x=b1) ag wz) 11 (.pure 0 (.pure 1 (.pure 2 (.pure 3 (.pure 4 (.pure 5 (.pure 6 (.pure 7 (.pure 8 (.fork 9 (.pure 10 .tail) .none)))))))))) mixed Bl (Aa (Aa An)) ?_;intro au ai _;have E:(fun wz=>Fr (fun x=>x=b1) ag wz) au:=eJ ai;simp only at E;have U:=O;have aw:=f;have a0:=L;have a1:=M;have bz:=F;revert O f L M F X;refine eY ai ?_;intro b0 O f L M F X;refine ⟨E,?_⟩;refine Tq rfl (xB [_,_,_,_,_,_]) ?_;refine eT ?_;refine Tq rfl (Ax Ac rfl rfl rfl (fun wz hz=>dP (dQ (PP.blk U) hz (by first|omega|(dsimp only;omega))) rfl)) ?_;refine eT ?_;refine Tq rfl (Ax Ac rfl rfl rfl (fun wz hz=>dP (dQ (PP.blk U) hz (by first|omega|(dsimp only;omega))) rfl)) ?_;refine Jf [_,_,_,_,_,_] [_,_,_,_,_,_] rfl Ac rfl rfl rfl rfl rfl rfl F rfl rfl ?_ A7;intro b2 ab;have av:=ab.blk;have aj:=ab.fr;have b3:=ab.size;have E:=E.fr aj Ab;revert f L M X;refine eF aj ?_;intro f L M X;refine ⟨E,?_⟩;refine Tq rfl Pa ?_;refine AF rfl ?_;refine eK ?_;refine CO rfl Ac rfl rfl rfl av rfl rfl rfl ?_
   exact ⟨_,_,_,_,_,_,rfl,⟨bC rfl,bC rfl,CX⟩,bC rfl,bI _,X⟩
def FW {P:Program} {n:Nat} {l:Sl} {tab:Tab} {sz:Nat} {w:wD} {fn:Func} {R:Ending->wD->Prop} {L f b s:Nat} {N:Sk} {vs:lV} {v3:Value} (h:fn.results = #[.cell L f,.tmp s]) (T:TabOk P tab) (O:AD tab f=some (N,sz)) (U:N.agg=true) (V:Ck l L=some (.pointer (some ⟨b,0,none⟩))) (X:Blk w b vs) (Y:vs.length=sz)
 (Z:Ck l s=some v3) (hR:R (.returned (.tuple #[.agg vs.toArray,v3])) w):QW n (bodyPost P fn R) .ret l w:=by
 unfold QW;intro a M;refine ⟨M.defers,.tuple #[.agg vs.toArray,v3],?_,hR⟩;have e:(loadVar f ⟨b,0,none⟩).run P w = .ok (.agg vs.toArray) w:=by
  simp only [bL,bW,bG,loadVar,Eo (T _ _ _ O),U,if_true,C2 (T _ _ _ O)];rw [<-Y,Ex X.row]
 have E:=M.has L _ V;have F:=M.has s _ Z;simp only [Array.getD_eq_getD_getElem?] at E F;simp [results,h,E,F,e,asAddr]
def Vk (q:Bool) (t:Nd) (f:t.size<=1000000) (h:t.isStmt=true\/t.isBlock=true) (S:nP) (a:oA) (c:Nat) (w:wD) (E:t.sits S w a):Calls prog 96 #[t.val a c,.bool q] w (CopyR (t.inv q) w):=US q (t.size+1) t S a c w Ab f h E
def YK:VD:=⟨[],0,0⟩
def Rp {l:List VD} {j:Nat} (h:j<l.length) (s:lB):F2 (l.take (j+1)) s=if l[j].name=s then some l[j] else F2 (l.take j) s:=by
 unfold F2;rw [bE h,List.reverse_append,List.reverse_singleton,List.singleton_append,List.find?_cons];by_cases f:l[j].name=s
 . simp [f]
 . simp [f]
def VDs.get {S:nP} {w:wD} {l:List VD} {a:oA} (h:VDs S w l a) (f:l≠[]) : ∃b o,a=some ⟨b,o,none⟩/\S b /\ ∀i v,l[i]? = some v->Row w ⟨b,o+i*3,none⟩ v.cells:=by
 rcases h with h|⟨b,o,h1,E,F⟩
 . exact absurd h f
 . exact ⟨b,o,h1,E,fun i v L=>F i v L⟩
def VDs.ltV {S:nP} {w:wD} {l:List VD} {a:oA} (h:VDs S w l a):VDs (· < w.heap.size) w l a:=h.lt2.wide fun _ h=>h.2
def Rq (l:List VD) (hl:l.length<=1000000) (s:lB) (S:nP) (a:oA) (c:Nat) (w:wD) (f:VDs S w l a) :
 Calls prog 130 #[.slice a l.length c,str s] w fun e w'=>e = .returned (.tuple #[((F2 l s).getD YK).val,.bool (F2 l s).isSome])/\Ext w w':=by
 have X:=dI w;have f:=f.ltV;refine Af func130 ntmps130 rfl rfl ?_;refine cS (eA [_,_,_] ?_);intro Y w2 Z x6 p7 z8;revert X f;refine eE x6 ?_;intro X f;refine eK ?_;refine C1 (Cv rfl rfl (bT _ Ab)) (C1 Pa (cT ?_));refine Ar ?_;refine AJ (ι:=Nat) (fun j=>[(0,.slice a l.length c),(1,str s),(4,.pointer (some ⟨Y,0,none⟩)),(6,.int .i64 ((j:Int)-1))])
  (fun j w'=>j<=l.length/\VDs (· < w.heap.size) w' l a/\Blk w' Y [.string ⟨#[]⟩,.int .u8 0,.int .i64 0]/\Ext w w'/\F2 l s=F2 (l.take j) s)
  (fun j=>j) l.length sB ⟨bJ _,f,Z,X,by rw [bH]⟩ ?_
 clear f Z X;rintro j w1 ⟨hj,f,L,X,E⟩;cases j with
 | zero=>
  have e0:F2 l s=none:=by rw [E];rfl
  rw [e0];refine eK ?_;refine C1 (xB [_,_,_]) (eS [_,_,_] L ?_);intro aa ab N ac;clear L;revert f X;refine eF N ?_;intro f X;refine C1 Pa (cT (BD ?_));refine FW rfl Ac rfl rfl rfl Ag rfl rfl ?_;exact ⟨rfl,X⟩
 | succ j=>
  have F:j<l.length:=by omega
  obtain ⟨kb,ko,rfl,kS,h⟩:=f.get (by intro e;subst e;simp at F);have M:=h j l[j] (aY F);have hn:=Rp F s;rw [hn] at E;clear h hn;generalize l[j]=v at *;have O:(((j+1:Nat):Int)-1)=(j:Int):=by omega
  obtain ⟨vn,vk,vl⟩:=v;replace M:Row w1 ⟨kb,ko+j*3,none⟩ [str vn,.int .u8 vk,.int .i64 vl]:=M;dsimp only at E;rw [O]
  focus
   refine eK ?_;refine AH rfl (fun U=>?_) (fun U=>?_);refine eK ?_;refine eS [_,_,_] L ?_;intro ad ae V af;clear L;revert X f M;refine eF V ?_;intro X f M;refine C1 Pa (cT (BD (AV (AL (AL (AV (AL ?_)))))));rotate_left;refine eK ?_;refine C1 (Cv rfl rfl (bT _ Ab)) (C1 Pa (Ah ?_));rotate_left
  . refine FW rfl Ac rfl rfl rfl Ag rfl rfl ?_;rw [AU Ag] at E;rw [E];exact ⟨rfl,X⟩
  . rw [AE Ag] at E;exact Aw j sB ⟨Ab,f,L,X,E⟩ Ab
section
variable {P:Program} {n:Nat} {l:Sl} {S:wD->Prop} {tab:Tab} {zt:Ey} {ty:TypeId} {w:wD}
def P5 {x y z:Operand} {t e E sz len cap:Nat} {sE:Sk} {a:oA} {k F:IntKind} (T:TabOk P tab) (U:AD tab t=some (.slice e,E)) (V:AD tab e=some (sE,sz)) (X:ev l x=some (.slice a len cap)) (Y:ev l y=some (.int k (len:Int))) (Z:ev l z=some (.int F (len:Int))) (hm:len<=cap) :
 BA P n l S (.slice t x none (some y) (some z)) ty (.slice a len len):=by
 unfold BA;intro aa w ab pos after g L _;have N:P.underlying t=some (.slice e):=(T _ _ _ U).under;have f:P.elem t=e:=by simp [Program.elem,N]
 have h:P.underlying t=some (.slice (P.elem t)):=by rw [f];exact N
 obtain ⟨i,hi,hs⟩:=(T _ _ _ V).info;have M:(Go.sizeOf e).run P w = .ok sz w:=by simp [Go.sizeOf,typeInfo,program,Sem.run,bind,Sem.bind,pure,hi,hs]
 have h1:(Instr.sliceAt t (.slice a len cap) none (some (.int k (len:Int))) (some (.int F (len:Int)))).run P w = .ok (.slice a len len) w:=by
  rw [run_sliceAt_slice w t _ _ _ _ h,run_slice_hm w t a len cap h k F len len Ab Ab Ab];rw [f,M];simp only [bG,sliced,Int.toNat_natCast,Nat.sub_zero,Nat.zero_mul];by_cases O:len=0
  . rw [AU O]
  . rw [AE O];cases a<;>simp [cU]
 simp [execOp,L.ev X,L.ev Y,L.ev Z,bL,h1,bG]
def Dg {x y:Operand} {t e sz1 sz m cap:Nat} {sE:Sk} {zs:lV} {a:oA} {p:Addr} {cs us:lV} {R:nP} (T:TabOk P tab) (Z:Cy P zt) (ht:AD tab t=some (.slice e,sz1)) (hE:AD tab e=some (sE,sz)) (hz:CT zt e=some zs) (hzl:zs.length=sz)
 (hby:Do P e=true) (hsz:bM 0 sz=true) (hx:ev l x=some (.slice a m m)) (hy:ev l y=some (.slice (some p) 1 cap)) (hs:Rows R w cs a) (hcl:cs.length=m*sz) (hr:Row w p us) (hul:us.length=1*sz) (hu:us.all Value.one=true) (hm:m<=1000000000) :
 Cr P n l (.call ⟨.builtin .append,#[x,y],#[t,t]⟩) ty w (LF fun o w'=> ∃g cap',o = .slice (some ⟨g,0,none⟩) (m+1) cap'/\m+1<=cap'/\Row w' ⟨g,0,none⟩ (cs++us)/\w.heap.size<=g/\g<w'.heap.size/\Ext w w'):=by
 obtain ⟨i,v0,z1,z2,z3⟩:=Fd Z hz;obtain ⟨i',hi',hs'⟩:=(T _ _ _ hE).info;rw [z1] at hi';obtain rfl:=bO hi';have hbb:i.bytes<=1000:=by
  unfold Do at hby;rw [z1] at hby;exact cE hby
 have hzs:v0.cells.size=sz:=by rw [z3];simpa using hzl
 have hsz':0<sz:=cE hsz;have hbytes:(m+1)*i.bytes<=140737488355328:=by have:=Nat.mul_le_mul (show m+1<=1000000001 by omega) hbb;omega
 have hnews : ∀j u,us[j]? = some u->w.cell? (p.add j)=some u:=fun j u hj=>hr j u hj
 have hu':P.underlying t=some (.slice e):=(T _ _ _ ht).under;have c:m+1<=maxLen:=by unfold maxLen;omega
 have key : ∃g cap' w',(Builtin.append_ #[t,t] ty #[.slice a m m,.slice (some p) 1 cap]).run P w = .ok (.slice (some ⟨g,0,none⟩) (m+1) cap') w'/\m+1<=cap'/\Row w' ⟨g,0,none⟩ (cs++us)/\w.heap.size<=g/\g<w'.heap.size/\Ext w w':=by
  have fin : ∀(v':Value) (w':wD),w'.ownsRow w.heap.size e sz v' (m+1) (cs++us)->w.grownBy w' none -> ∃g cap',v' = .slice (some ⟨g,0,none⟩) (m+1) cap'/\m+1<=cap'/\Row w' ⟨g,0,none⟩ (cs++us)/\w.heap.size<=g/\g<w'.heap.size/\Ext w w':=fun v' w' h1 h2=>by
   have ho:Own w' w.heap.size e sz v' (m+1) (cs++us):=h1;have hx:Ext w w':=⟨h2.os,h2.tape,h2.output,h2.size,fun k hk=>h2.block k hk Bd⟩
   rcases ho.row with ⟨-,h0,-⟩|⟨g,cap',rfl,hg,hob,hrr⟩
   . omega
   . exact ⟨g,cap',rfl,R8 ho,hrr,hg,(ho.blk hob).2,hx⟩
  cases a with
  | some b=>
   obtain ⟨v',w',hrun,h1,h2⟩:=run_append_arg_grows (P:=P) w t ty e i v0 sz i.bytes hu' z1 z2 hs' rfl hzs hsz' b m m cs hcl (fun j u hj=>by
    rcases hs with rfl|⟨b',o,hb,-,hrow⟩
    . simp at hj
    . obtain rfl:=bO hb;exact hrow j u hj) p 1 cap us hul hnews Ab c hbytes
   obtain ⟨g,cap',rfl,k⟩:=fin v' w' h1 h2;exact ⟨g,cap',w',hrun,k⟩
  | none=>
   have d:cs=[]:=by
    rcases hs with rfl|⟨b',o,hb,-⟩
    . rfl
    . cases hb
   subst d;have f:m=0:=by
    simp only [aX] at hcl;rcases Nat.eq_zero_or_pos m with h|h
    . exact h
    . have:=Nat.mul_pos h hsz';omega
   subst f;have h1c : ∀u∈us,u.oneCell'=true:=fun u hm=>by rw [<-R0];exact cX.1 hu u hm
   obtain ⟨v',w',hrun,h1,h2,-⟩:=run_append_own (P:=P) w w.heap.size t ty e i v0 sz i.bytes hu' z1 z2 hs' rfl hzs hsz' (.slice none 0 0) 0 [] Own.nil p 1 cap us hul hnews h1c (by unfold maxLen;omega) (by simpa using hbytes) (bJ _);obtain ⟨g,cap',rfl,k⟩:=fin v' w' (by simpa using h1) (by simpa [cV] using h2);exact ⟨g,cap',w',hrun,k⟩
 obtain ⟨g,cap',w',hrun,k⟩:=key;unfold Cr;intro act dst pos after gd next Q ha hn _;have e1:(execOp act.eval ⟨dst,.call ⟨.builtin .append,#[x,y],#[t,t]⟩,ty,pos,after,gd⟩).run P w = .ok (.value (.slice (some ⟨g,0,none⟩) (m+1) cap')) w':=by
  simp only [execOp,resolve,invoke,builtin,bL,bW,Result.andThen_ok,List.map_toArray,List.map_cons,List.map_nil,ha.ev hx,ha.ev hy,hrun]
 unfold Oper.wp;rw [e1];exact hn _ _ ⟨g,cap',rfl,k⟩
end
def PDs.ltA {S:nP} {w:wD} {l:List PD} {a:oA} (h:PDs S w l a):PDs (· < w.heap.size) w l a:=by
 rcases h with h|⟨b,o,h1,X,E⟩
 . exact bC h
 . cases l with
   | nil=>exact bC rfl
   | cons v r=>
    obtain ⟨_,_,_,_,f,-,-⟩:=E 0 v rfl;refine bF ⟨b,o,h1,Cb (Row.at0 f rfl),fun i x F=>?_⟩;obtain ⟨L,M,N,O,f,U,V⟩:=E i x F;exact ⟨L,M,N,O,f,U.lt2.wide (fun _ h=>h.2),Hu _ _ V⟩
structure PG.few (g:PG):Prop where
 nv:g.vars.length<=1000000
 np:g.procs.length<=1000000
 main:g.main.size<=1000000
 procs : ∀p∈g.procs,p.params.length<=1000000/\p.body.size<=1000000
def Oz (l:List VD) (U:l.length<=1000000) (s:lB) (S:nP) (a:oA) (c:Nat) (w:wD) (h:VDs S w l a) :
 Calls prog 89 #[.slice a l.length c,str s] w fun e w'=>e = .returned (.int .i64 (Fm l s))/\Ext w w':=by
 have X:=dI w;have E:=bA (Rq l U s);unfold Fm;generalize F2 l s=o at *;cases o with
 | none=>
  dsimp only [Option.isSome,Option.getD] at E ⊢;refine Af func89 ntmps89 rfl rfl ?_;refine eK ?_;refine cC rfl (E.out _ _ _ _ Ag) ?_;rintro _ w2 ⟨⟨⟩,V⟩;revert h X;refine eY V ?_;intro z3 h X;refine eK ?_;refine xA [_,_,_] ?_;intro b4 w5 Y;refine eI [_,_,_] Y ?_;intro w7 h8 Z aa ab;revert h X;refine eE Z ?_;intro h X;refine eK ?_;refine xR ?_;exact ⟨rfl,X⟩
 | some v=>
  obtain ⟨vn,vk,vl⟩:=v;dsimp only [Option.isSome,Option.getD] at E ⊢;refine Af func89 ntmps89 rfl rfl ?_;refine eK ?_;refine cC rfl (E.out _ _ _ _ Ag) ?_;rintro _ ac ⟨⟨⟩,F⟩;revert h X;refine eY F ?_;intro ad h X;refine eK ?_;refine xA [_,_,_] ?_;intro ae af f;refine FG [_,_,_] Ac rfl rfl rfl rfl rfl rfl f rfl ?_;intro ag f;have L:=f.blk;dsimp only at L;have M:=f.ext;have N:=f.pos;have O:=f.size;revert h X;refine eE M ?_;intro h X;refine eK ?_;refine xR ?_;exact ⟨rfl,X⟩
def Zu (l:List VD) (V:l.length<=1000000) (s:lB) (k:Int) (S:nP) (a:oA) (c:Nat) (w:wD) (h:VDs S w l a) :
 Calls prog 180 #[.slice a l.length c,str s,.int .u8 k] w fun e w'=>e = .returned (.int .i64 (O1 l s k))/\Ext w w':=by
 have X:=dI w;have F:=bA (Rq l V s);unfold O1;generalize F2 l s=o at *;cases o with
 | none=>
  dsimp only [Option.isSome,Option.getD] at F;refine Af func180 ntmps180 rfl rfl ?_;refine eK ?_;refine cC rfl (F.out _ _ _ _ Ag) ?_;rintro _ w2 ⟨⟨⟩,Y⟩;revert h X;refine eY Y ?_;intro z3 h X;refine eK ?_;refine xA [_,_,_] ?_;intro b4 w5 Z;refine eI [_,_,_] Z ?_;intro w7 h8 x9 aa ab;revert h X;refine eE x9 ?_;intro h X;refine eK ?_;refine xR ?_;exact ⟨rfl,X⟩
 | some v=>
  obtain ⟨vn,vk,vl⟩:=v;dsimp only [Option.isSome,Option.getD] at F ⊢;refine Af func180 ntmps180 rfl rfl ?_
  focus
   refine eK ?_;refine cC rfl (F.out _ _ _ _ Ag) ?_;rintro _ ac ⟨⟨⟩,L⟩;revert h X;refine eY L ?_;intro ad h X;refine eK ?_;refine xA [_,_,_] ?_;intro ae af f;refine FG [_,_,_] Ac rfl rfl rfl rfl rfl rfl f rfl ?_;intro ag f;have M:=f.blk;dsimp only at M;have N:=f.ext;have O:=f.pos;have U:=f.size;revert h X;refine eE N ?_;intro h X;refine eK ?_;refine Jd rfl (fun E=>?_) (fun E=>?_);refine eK ?_;refine xR ?_;rotate_left;refine eK ?_;refine xR ?_;rotate_left
  all_goals exact ⟨by simp [*],X⟩
def H9 (ps:List PD) (s:lB):Int:=match FI ps s with
 | some i=>(i:Int)
 | none=> -1
def PDs.get {S:nP} {w:wD} {l:List PD} {a:oA} (h:PDs S w l a) (f:l≠[]) : ∃b o,a=some ⟨b,o,none⟩/\S b /\ ∀i p,l[i]? = some p->Zn S w b (o+i*6) p:=by
 rcases h with h|⟨b,o,h1,E,F⟩
 . exact absurd h f
 . exact ⟨b,o,h1,E,fun i v L=>F i v L⟩
def Xj (p:PD) (E F:oA) (L M f:Nat) (s:lB) (w:wD) (h:Blk w f [str s]):Calls prog 132 #[.agg (p.cells E L F M).toArray,.pointer (some ⟨f,0,none⟩)] w fun e w'=>e = .returned (.bool (decide (p.name=s)))/\Ext w w':=by
 have X:=dI w;refine Af func132 ntmps132 rfl rfl ?_;refine cS (eB [_,_,_,_,_,_] ?_);intro O U V N Y Z;revert h X;refine eE N ?_;intro h X;refine eK ?_;refine xR ?_;exact ⟨rfl,X⟩
def MU {α:Type} {f:α->Bool} {l:List α} {j:Nat} (h:j<l.length) (F:(l.take j).findIdx? f=none):(l.take (j+1)).findIdx? f=if f l[j]=true then some j else none:=by
 rw [bE h,List.findIdx?_append,F];by_cases E:f l[j]=true
 . simp [E,List.findIdx?_cons];omega
 . simp [E,List.findIdx?_cons]
def MV {α:Type} {f:α->Bool} {l:List α} {j i:Nat} (h:(l.take j).findIdx? f=some i):l.findIdx? f=some i:=by
 rw [<-cL j l,List.findIdx?_append,h];rfl
def Vl (l:List PD) (hl:l.length<=1000000) (s:lB) (S:nP) (a:oA) (c N:Nat) (w:wD) (f:PDs S w l a) (M:Blk w N [str s]) :
 Calls prog 131 #[.slice a l.length c,.func (.func 132) #[] #[.pointer (some ⟨N,0,none⟩)]] w fun e w'=>e = .returned (.int .i64 (H9 l s))/\Ext w w':=by
 have X:=dI w;have f:=f.ltA;refine Af func131 ntmps131 rfl rfl ?_;refine cS (C1 Pa (cT (Aj (cS (C1 Mv (C1 Pz (C1 Mv (cT ?_))))))));refine Ar ?_;refine AJ (ι:=Nat) (fun j=>[(0,.slice a l.length c),(1,.func (.func 132) #[] #[.pointer (some ⟨N,0,none⟩)]),(6,.slice a l.length c),(7,.int .i64 l.length),(8,.int .i64 j)])
  (fun j w'=>j<=l.length/\PDs (· < w.heap.size) w' l a/\Blk w' N [str s]/\Ext w w'/\(l.take j).findIdx? (fun p=>decide (p.name=s))=none)
  (fun j=>l.length-j) 0 sB ⟨bI _,f,M,X,rfl⟩ ?_
 clear f M X;rintro j w1 ⟨hj,f,M,X,E⟩;by_cases L:j<l.length
 . obtain ⟨kb,ko,rfl,kS,F⟩:=f.get (by intro e;subst e;simp at L);obtain ⟨pa,pc,ba,bc,Z,-,-⟩:=F j l[j] (aY L);have O:=MU L E;have U:l[j].name=s->H9 l s=j:=fun h=>by
    rw [AU (by simpa using h)] at O;rw [H9,FI,MV O]
   clear F E;generalize l[j]=y at *
   focus
    refine eK ?_;refine Au (B4 (fi:=[]) (ca:=[.pointer (some ⟨N,0,none⟩)]) Bl rfl rfl (Xj y pa ba pc bc _ s _ Ag) (fun _ _ h=>⟨_,h.1⟩)) rfl ?_ aFh;rintro _ aa ⟨⟨⟩,V⟩;revert M X f Z;refine eY V ?_;intro ab M X f Z;refine cT ?_;refine AH rfl (fun Y=>?_) (fun Y=>?_);refine eK ?_;refine xR ?_;rotate_left;refine As (Ae (Ai (Ad (C1 V7 (C1 Mv (Ah ?_))))));rotate_left
   . exact ⟨by rw [U Ag],X⟩
   . exact Aw (j+1) sB ⟨Ab,f,M,X,O.trans (AE (by simpa using Ag))⟩ Ab
 . obtain rfl:j=l.length:=by omega
   rw [bH] at E;have he:H9 l s = -1:=by rw [H9,FI,E]
   rw [he];refine eK ?_;refine xR ?_;exact ⟨rfl,X⟩
def Rr (g:PG) (N:g.procs.length<=1000000) (s:lB) (S:nP) (O:oA) (U:Nat) (M:oA) (V:Nat) (Y:oA) (Z:Nat) (w:wD) (f:PDs S w g.procs M) :
 Calls prog 90 #[.agg (g.cells O U M V Y Z).toArray,str s] w fun e w'=>e = .returned (.int .i64 (H9 g.procs s))/\Ext w w':=by
 have X:=dI w;have f:=f.ltA;refine Af func90 ntmps90 rfl rfl ?_;refine cS (eB [_,_,_,_,_,_] ?_);intro b1 w2 E x5 p6 z7;revert X f;refine eE x5 ?_;intro X f;refine eB [_] ?_;intro b8 w9 h F aa ab;revert E X f;refine eE F ?_;intro E X f;refine eK ?_;refine C1 (EW rfl) (cC rfl (Vl _ N s _ _ _ _ _ Ag Ag) ?_);rintro _ ac ⟨⟨⟩,L⟩;revert h E X f;refine eY L ?_;intro ad h E X f;refine eK ?_;refine xR ?_;exact ⟨rfl,X⟩
def Xk (a:oA) (n c:Nat) (w:wD) (f:n<=c) (h:n<=1000000):Calls prog 181 #[.slice a n c] w fun e w'=>e = .returned (.slice a n n)/\w=w':=by
 refine Af func181 ntmps181 rfl rfl ?_;refine eK ?_;refine C1 (P5 Ac rfl rfl rfl rfl rfl f) ?_;refine eK ?_;refine xR ?_;exact ⟨rfl,rfl⟩
def Ll (a:oA) (n c:Nat) (w:wD) (f:n<=c) (h:n<=1000000):Calls prog 182 #[.slice a n c] w fun e w'=>e = .returned (.slice a n n)/\w=w':=by
 refine Af func182 ntmps182 rfl rfl ?_;refine eK ?_;refine C1 (P5 Ac rfl rfl rfl rfl rfl f) ?_;refine eK ?_;refine xR ?_;exact ⟨rfl,rfl⟩
def PathAt (S:nP) (w:wD) (a:oA) (n c:Nat):Prop:=(n<=c/\(a=none->c=0)) /\ ∃cs:lV,cs.length=n*1/\cs.all Value.one=true/\Rows S w cs a
def PathAt.nil {S:nP} {w:wD}:PathAt S w none 0 0:=⟨⟨bJ _,fun _=>rfl⟩,[],rfl,rfl,bC rfl⟩
def PathAt.ext {S:nP} {w w':wD} {a:oA} {n c:Nat} (h:PathAt S w a n c) (x:Ext w w'):PathAt S w' a n c:=⟨h.1,by obtain ⟨cs,h1,f,E⟩:=h.2;exact ⟨cs,h1,f,E.ext x⟩⟩
instance {S:nP} {w w':wD} {a:oA} {n c:Nat}:LfE w w' (PathAt S w a n c) (PathAt S w' a n c):=⟨fun x h=>Bk.PathAt.ext h x⟩
def PathAt.fr {S T:nP} {w w':wD} {a:oA} {n c:Nat} (h:PathAt S w a n c) (x:Fr T w w') (f : ∀b,S b -> ¬T b):PathAt S w' a n c:=⟨h.1,by obtain ⟨cs,h1,E,F⟩:=h.2;exact ⟨cs,h1,E,F.fr x f⟩⟩
instance {S T:nP} {w w':wD} {a:oA} {n c:Nat}:LfF T w w' (PathAt S w a n c) (∀b,S b -> ¬T b) (PathAt S w' a n c):=⟨fun x s h=>Bk.PathAt.fr h x s⟩
def PathAt.clone {S:nP} {w:wD} {a:oA} {n c:Nat} (h:PathAt S w a n c) (N:n<=1000000):Calls prog 88 #[.slice a n c] w (SliceR n w):=by
 obtain ⟨⟨h1,f⟩,cs,E,F,L⟩:=h;cases a with
 | some p=>exact KG cs n E F Ab S p c w L
 | none=>
  have M:=f rfl;subst M;obtain rfl:n=0:=by omega
  exact KH w
def ChildR (n:Nat) (w:wD):Ending->wD->Prop:=fun e w'=> ∃g c,e = .returned (.slice (some ⟨g,0,none⟩) (n+1) c)/\PathAt (fun b=>w.heap.size<=b/\b<w'.heap.size) w' (some ⟨g,0,none⟩) (n+1) c/\Ext w w'
def ChildR.ret {n:Nat} {w:wD} {e:Ending} {w':wD} (h:ChildR n w e w') : ∃v,e = .returned v:=by
 obtain ⟨_,_,h,-⟩:=h;exact ⟨_,h⟩
def Su (i:Int) (S:nP) (a:oA) (n c:Nat) (w:wD) (N:n<=1000000) (O:PathAt S w a n c):Calls prog 134 #[.slice a n c,.int .i64 i] w (ChildR n w):=by
 have X:=dI w;obtain ⟨⟨U,-⟩,cs,h1,V,f⟩:=O;have f:=f.ltA;refine Af func134 ntmps134 rfl rfl ?_;refine eK ?_;refine cC rfl (Xk _ _ _ _ U N) ?_;rintro _ w1 ⟨⟨⟩,rfl⟩;refine C1 Mv ?_;refine Au (xS [_]) rfl ?_ aFh;rintro _ w3 ⟨b2,rfl,h,t5⟩;have M:=h.blk;have Y:=h.ext;have p8:=h.pos;have z9:=h.size;revert X f;refine eE Y ?_;intro X f;refine Au (Dg Ac CM rfl rfl rfl rfl Bl rfl rfl rfl Ag h1 (eC Ag) rfl rfl Ab) rfl ?_ aFh;rintro _ Z ⟨aa,⟨E,⟨rfl,⟨F,⟨ab,⟨ac,⟨ad,L⟩⟩⟩⟩⟩⟩⟩;revert M X f;refine eY L ?_;intro ae M X f;refine eK ?_;refine xR ?_;exact ⟨_,_,rfl,⟨⟨F,fun e=>by cases e⟩,cs++[.int .i64 i],by simp [h1],by rw [List.all_append,V];rfl,bF ⟨_,_,rfl,⟨Ab,Ab⟩,Ag⟩⟩,X⟩
def InnerR (S:nP) (L:List VD) (w:wD):Ending->wD->Prop:=fun e w'=> ∃a c,e = .returned (.slice a L.length c)/\L.length<=c/\VDs (fun b=>S b\/(w.heap.size<=b/\b<w'.heap.size)) w' L a/\Ext w w'
def InnerR.ret {S:nP} {L:List VD} {w:wD} {e:Ending} {w':wD} (h:InnerR S L w e w') : ∃v,e = .returned v:=by
 obtain ⟨_,_,h,-⟩:=h;exact ⟨_,h⟩
def L2 {S:nP} {l:List VD} {v:VD} {g c:Nat} {w w':wD} (f:l.length+1<=c) (h:Row w' ⟨g,0,none⟩ (l.flatMap VD.cells++v.cells)) (h1:w.heap.size<=g) (E:g<w'.heap.size) (X:Ext w w'):InnerR S (l++[v]) w (.returned (.slice (some ⟨g,0,none⟩) (l.length+1) c)) w':=by
 refine ⟨some ⟨g,0,none⟩,c,Bd,by simpa using f,LR (bF ⟨g,0,rfl,bF ⟨h1,E⟩,?_⟩),X⟩;rw [List.flatMap_append];simpa using h
def Xl (k n:Int) (s:lB) (kl:List Nd) (ka:oA) (kc i:Nat) (l:List VD) (hl:l.length<=1000000) (S:nP) (a:oA) (c:Nat) (w:wD) (hc:l.length<=c) (F:VDs S w l a) :
 Calls prog 136 #[(Nd.mk k n s kl).val ka kc,.int .i64 i,.slice a l.length c] w (InnerR S (DH k s i l) w):=by
 have X:=dI w;have h1:=Hs Oc l;have F:=PB F;have L:=F.ltA;show Calls prog 136 #[.agg #[.int .u8 k,.int .i64 n,str s,.slice ka kl.length kc],.int .i64 i,.slice a l.length c] w (InnerR S (DH k s i l) w);by_cases V:k=54/\i=1
 . have hv:DH k s i l=l++[⟨s,1,0⟩]:=by unfold DH;rw [AU V]
   rw [hv];obtain ⟨rfl,rfl⟩:=V;refine Af func136 ntmps136 rfl rfl ?_
   focus
    refine cS (eB [_,_,_,_] ?_);intro b1 w2 U x5 p6 z7;revert X F L;refine eE x5 ?_;intro X F L;refine eK ?_;refine AC (fun wz=>Ext w2 wz) 6 (.pure 0 (.pure 2 (.pure 3 (.pure 4 (.fork 1 (.fork 5 .tail .none) (.fork 5 (.fork 1 .tail .none) .none)))))) mixed Bl (Aa (Al (Aa An))) ?_;intro w8 x9 _;have E:(fun wz=>Ext w2 wz) w8:=x9;simp only at E;have a3:=U;have ad:=F;have ae:=L;revert U X F L;refine eY x9 ?_;intro bv U X F L;refine ⟨E,?_⟩;refine eT ?_;refine Tq rfl (xB [_,_,_]) ?_;refine A1 rfl (Bb Bl rfl (Ll _ _ _ _ hc hl) (fun _ _ h=>⟨_,h.1⟩)) rfl ?_ aFh ?kr12;rintro _ bw ⟨⟨⟩,rfl⟩;refine ⟨E,?_⟩;refine A1 rfl (xS [_,_,_]) rfl ?_ aFh A7;rintro _ bx ⟨bz,rfl,Y,b0⟩;have af:=Y.blk;have au:=Y.ext;have b2:=Y.pos;have z22:=Y.size;revert E U X F L;refine eE au ?_;intro E U X F L;refine ⟨E,?_⟩;refine AF rfl ?_;refine Au (Dg Ac CM rfl rfl rfl rfl Bl rfl rfl rfl Ag h1 (eC Ag) rfl rfl Ab) rfl ?_ aFh;rintro _ b3 ⟨b4,⟨aq,⟨rfl,⟨b5,⟨b6,⟨b7,⟨b8,ag⟩⟩⟩⟩⟩⟩⟩;have z31:=ag.size;revert af U X F L;refine eE ag ?_;intro af U X F L;refine eK ?_;refine xR ?_;rotate_left;refine A1 rfl (xS [_,_,_]) rfl ?_ aFh A7;rintro _ b9 ⟨ca,rfl,Z,cb⟩;have ah:=Z.blk;have av:=Z.ext;have cc:=Z.pos;have cd:=Z.size;revert E U X F L;refine eE av ?_;intro E U X F L;refine ⟨E,?_⟩;refine tC rfl rfl (Ll _ _ _ _ hc hl) ?_;rintro _ ce ⟨⟨⟩,rfl⟩;refine ⟨E,?_⟩;refine AF rfl ?_;refine Au (Dg Ac CM rfl rfl rfl rfl Bl rfl rfl rfl Ag h1 (eC Ag) rfl rfl Ab) rfl ?_ aFh;rintro _ cf ⟨cg,⟨ar,⟨rfl,⟨ch,⟨ci,⟨cj,⟨ck,aw⟩⟩⟩⟩⟩⟩⟩;revert ah U X F L;refine eY aw ?_;intro z51 ah U X F L;refine eK ?_;refine xR ?_;rotate_left
   all_goals exact L2 (v:=⟨s,1,0⟩) Ag Ag Ab Ag X
 by_cases ac:k=55/\i=0
 . have hv:DH k s i l=l++[⟨s,3,0⟩]:=by unfold DH;rw [AE V,AU ac]
   rw [hv];obtain ⟨rfl,rfl⟩:=ac;refine Af func136 ntmps136 rfl rfl ?_
   focus
    refine cS (eB [_,_,_,_] ?_);intro cl ai M ax cm cn;revert X F L;refine eE ax ?_;intro X F L;refine eK ?_;refine AC (fun wz=>Ext ai wz) 6 (.pure 0 (.pure 2 (.pure 3 (.pure 4 (.fork 1 (.fork 5 .tail .none) (.fork 5 (.fork 1 .tail .none) .none)))))) mixed Bl (Aa (Al (Aa An))) ?_;intro ay aj _;have f:(fun wz=>Ext ai wz) ay:=aj;simp only at f;have az:=M;have ad:=F;have ae:=L;revert M X F L;refine eY aj ?_;intro a4 M X F L;refine ⟨f,?_⟩;refine eT ?_;refine Tq rfl (xB [_,_,_]) ?_;refine A1 rfl (Bb Bl rfl (Ll _ _ _ _ hc hl) (fun _ _ h=>⟨_,h.1⟩)) rfl ?_ aFh ?kra12;rintro _ a5 ⟨⟨⟩,rfl⟩;refine ⟨f,?_⟩;refine A1 rfl (xS [_,_,_]) rfl ?_ aFh A7;rintro _ a6 ⟨a7,rfl,N,a8⟩;have aa:=N.blk;have ak:=N.ext;have a9:=N.pos;have ba:=N.size;revert f M X F L;refine eE ak ?_;intro f M X F L;refine ⟨f,?_⟩;refine AF rfl ?_;refine Au (Dg Ac CM rfl rfl rfl rfl Bl rfl rfl rfl Ag h1 (eC Ag) rfl rfl Ab) rfl ?_ aFh;rintro _ bb ⟨bc,⟨al,⟨rfl,⟨bd,⟨be,⟨bf,⟨bg,am⟩⟩⟩⟩⟩⟩⟩;revert aa M X F L;refine eY am ?_;intro bh aa M X F L;refine eK ?_;refine xR ?_;rotate_left;refine A1 rfl (xS [_,_,_]) rfl ?_ aFh A7;rintro _ bi ⟨bj,rfl,O,bk⟩;have ab:=O.blk;have an:=O.ext;have bl:=O.pos;have bm:=O.size;revert f M X F L;refine eE an ?_;intro f M X F L;refine ⟨f,?_⟩;refine tC rfl rfl (Ll _ _ _ _ hc hl) ?_;rintro _ bn ⟨⟨⟩,rfl⟩;refine ⟨f,?_⟩;refine AF rfl ?_;refine Au (Dg Ac CM rfl rfl rfl rfl Bl rfl rfl rfl Ag h1 (eC Ag) rfl rfl Ab) rfl ?_ aFh;rintro _ bo ⟨bp,⟨ao,⟨rfl,⟨bq,⟨br,⟨bs,⟨bt,ap⟩⟩⟩⟩⟩⟩⟩;revert ab M X F L;refine eY ap ?_;intro bu ab M X F L;refine eK ?_;refine xR ?_;rotate_left
   all_goals exact L2 (v:=⟨s,3,0⟩) Ag Ag Ab Ag X
 . have hv:DH k s i l=l:=by unfold DH;rw [AE V,AE ac]
   rw [hv];refine Af func136 ntmps136 rfl rfl ?_
   focus
    refine cS (eB [_,_,_,_] ?_);intro co cp cq a0 cr ct;revert X F;refine eE a0 ?_;intro X F;refine eK ?_;refine Cm rfl rfl rfl (fun a1=>?_) (fun a1=>?_);refine eK ?_;refine xR ?_;rotate_left;refine eK ?_;refine Cm rfl rfl rfl (fun a2=>?_) (fun a2=>?_);refine eK ?_;refine xR ?_;rotate_left;refine eK ?_;refine xR ?_;rotate_left
   all_goals exact ⟨_,_,rfl,hc,(LR Ag).wide (fun _ h=>bC h),X⟩
def P6 {f:List PD} {s:lB} {i:Nat} (h:FI f s=some i):i<f.length:=by
 unfold FI at h;obtain ⟨E,-⟩:=List.findIdx?_eq_some_iff_getElem.1 h;exact E
set_option maxHeartbeats 8000000 in
def Xm (g:PG) (hg:g.procs.length<=1000000) (k n:Int) (s:lB) (l:List Nd) (ka:oA) (kc:Nat) (v:List VD) (hv:v.length<=1000000) (S S':nP) (va:oA) (vc:Nat) (pa:oA) (pc:Nat) (ma:oA) (mc:Nat) (a:oA) (c:Nat) (w:wD) (f:PDs S w g.procs pa) (F:VDs S' w v a) :
 Calls prog 133 #[.agg (g.cells va vc pa pc ma mc).toArray,(Nd.mk k n s l).val ka kc,.slice a v.length c] w fun e w'=>e = .returned (.int .i64 (Dq g.procs v k s l.length))/\Ext w w':=by
 have X:=dI w;have f:=f.ltA;have HU:=bA (Zu v hv s);have HF:=bA (Oz v hv s);have HP:=bA (Rr g hg s);show Calls prog 133 #[.agg (g.cells va vc pa pc ma mc).toArray,.agg #[.int .u8 k,.int .i64 n,str s,.slice ka l.length kc],.slice a v.length c] w _;refine Af func133 ntmps133 rfl rfl ?_
 focus
  refine cS (eB [_,_,_,_,_,_] ?_);intro b1 w2 L x5 p6 z7;revert F X f;refine eE x5 ?_;intro F X f;refine eB [_,_,_,_] ?_;intro b8 w9 E ab a0 a1;revert L F X f;refine eE ab ?_;intro L F X f;refine eK ?_;refine AH rfl (fun ac=>?_) (fun ac=>?_);rotate_left;rotate_left
 . have N:Dq g.procs v k s l.length=O1 v s 1:=by unfold Dq;rw [AU Ab]
   rw [N];refine eK ?_;refine cC rfl (HU.out _ _ _ _ _ Ag) ?_;rintro _ a2 ⟨⟨⟩,ad⟩;revert E L F X f;refine eY ad ?_;intro a3 E L F X f;refine eK ?_;refine xR ?_;exact ⟨rfl,X⟩
 focus
  refine eK ?_;refine AH rfl (fun ae=>?_) (fun ae=>?_);rotate_left;refine Aj ?_;rotate_left
 . have N:Dq g.procs v k s l.length=O1 v s 2:=by unfold Dq;rw [AE Ab,AU Ab]
   rw [N];refine eK ?_;refine cC rfl (HU.out _ _ _ _ _ Ag) ?_;rintro _ a4 ⟨⟨⟩,af⟩;revert E L F X f;refine eY af ?_;intro a5 E L F X f;refine eK ?_;refine xR ?_;exact ⟨rfl,X⟩
 refine Ff (ι:=Unit) (fun _=>[(2,.slice a v.length c),(3,.pointer (some ⟨b1,0,none⟩)),(4,.pointer (some ⟨b8,0,none⟩)),(9,.int .u8 k),(22,.bool (decide (k=4\/k=5\/k=44\/k=45)))]) (fun _ w'=>w'=w9) ?_ ?_
 . focus
    refine eK ?_;refine AH rfl (fun ag=>?_) (fun ag=>?_);refine As ?_;rotate_left;refine eK ?_;refine AH rfl (fun ah=>?_) (fun ah=>?_);refine As ?_;rotate_left;refine eK ?_;refine AH rfl (fun ai=>?_) (fun ai=>?_);refine As ?_;rotate_left;refine Ad (C1 V1 (C1 Pa (Ah ?_)));rotate_left
   all_goals exact BL () (Ak rfl (Ak rfl (Ak rfl (Ak rfl (AW rfl (congrArg dF (decide_eq_decide.2 Ab)) AY))))) rfl
 rintro-u1 h;subst h
 focus
  refine AH rfl (fun aj=>?_) (fun aj=>?_);rotate_left;refine Aj ?_;rotate_left
 . have N:Dq g.procs v k s l.length=O1 v s 3:=by unfold Dq;rw [AE Ab,AE Ab,AU Ab]
   rw [N];refine eK ?_;refine cC rfl (HU.out _ _ _ _ _ Ag) ?_;rintro _ a6 ⟨⟨⟩,ak⟩;revert E L F X f;refine eY ak ?_;intro a7 E L F X f;refine eK ?_;refine xR ?_;exact ⟨rfl,X⟩
 refine Ff (ι:=Unit) (fun _=>[(2,.slice a v.length c),(3,.pointer (some ⟨b1,0,none⟩)),(4,.pointer (some ⟨b8,0,none⟩)),(9,.int .u8 k),(31,.bool (decide (k=54\/k=55)))]) (fun _ w'=>w'=u1) ?_ ?_
 . focus
    refine eK ?_;refine AH rfl (fun al=>?_) (fun al=>?_);refine As ?_;rotate_left;refine Ad (C1 V1 (C1 Pa (Ah ?_)));rotate_left
   all_goals exact BL () (Ak rfl (Ak rfl (Ak rfl (Ak rfl (AW rfl (congrArg dF (decide_eq_decide.2 Ab)) AY))))) rfl
 rintro-u2 h;subst h
 focus
  refine AH rfl (fun am=>?_) (fun am=>?_);rotate_left;refine Aj ?_;rotate_left
 . have N:Dq g.procs v k s l.length=Fm v s:=by unfold Dq;rw [AE Ab,AE Ab,AE Ab,AU Ab]
   rw [N];refine eK ?_;refine cC rfl (HF.out _ _ _ _ Ag) ?_;rintro _ a8 ⟨⟨⟩,an⟩;revert E L F X f;refine eY an ?_;intro a9 E L F X f;refine eK ?_;refine xR ?_;exact ⟨rfl,X⟩
 refine Ff (ι:=Unit) (fun _=>[(2,.slice a v.length c),(3,.pointer (some ⟨b1,0,none⟩)),(4,.pointer (some ⟨b8,0,none⟩)),(9,.int .u8 k),(38,.bool (decide (k=50\/k=51)))]) (fun _ w'=>w'=u2) ?_ ?_
 . focus
    refine eK ?_;refine AH rfl (fun ao=>?_) (fun ao=>?_);refine As ?_;rotate_left;refine Ad (C1 V1 (C1 Pa (Ah ?_)));rotate_left
   all_goals exact BL () (Ak rfl (Ak rfl (Ak rfl (Ak rfl (AW rfl (congrArg dF (decide_eq_decide.2 Ab)) AY))))) rfl
 rintro-u3 h;subst h
 focus
  refine AH rfl (fun ap=>?_) (fun ap=>?_);rotate_left;refine eK ?_;refine xR ?_;rotate_left
 . have N:Dq g.procs v k s l.length=UG g.procs s l.length:=by unfold Dq;rw [AE Ab,AE Ab,AE Ab,AE Ab,AU Ab]
   rw [N];unfold UG;have M:=bA (HP.out (· < w.heap.size) va vc pa pc ma mc);unfold H9 at M;cases hq:FI g.procs s with
   | none=>
    rw [hq] at M;dsimp only at M;refine eK ?_;refine cC rfl (M.out _ Ag) ?_;rintro _ bb ⟨⟨⟩,aq⟩;revert E L F X f;refine eY aq ?_;intro bd E L F X f;refine eK ?_;refine xR ?_;exact ⟨rfl,X⟩
   | some i=>
    rw [hq] at M;dsimp only at M;have hi:=P6 hq;obtain ⟨kb,ko,rfl,kS,O⟩:=f.get (by intro e;rw [e] at hi;simp at hi);obtain ⟨qa,qc,ba,bc,V,-,-⟩:=O i g.procs[i] (aY hi);have hm:((g.procs[i]?.map fun p=>p.params.length).getD 0)=g.procs[i].params.length:=by rw [aY hi];rfl
    dsimp only;rw [hm];clear O hm hq;generalize g.procs[i]=y at *
    focus
     refine eK ?_;refine cC rfl (M.out _ Ag) ?_;rintro _ Y ⟨⟨⟩,ar⟩;revert E F X L f V;refine eY ar ?_;intro be E F X L f V;refine eK ?_;refine AC (fun wz=>Ext Y wz) 10 (.pure 0 (.pure 1 (.pure 2 (.pure 3 (.pure 4 (.pure 5 (.pure 6 (.pure 7 (.pure 8 (.pure 9 .tail)))))))))) mixed Bl (Aa (Al (Aa An))) ?_;intro au Z _;have U:(fun wz=>Ext Y wz) au:=Z;simp only at U;have av:=E;have ay:=F;have az:=L;have aw:=f;have aa:=V;revert E F X L f V;refine eY Z ?_;intro bf E F X L f V;refine ⟨U,?_⟩;refine eT ?_;refine Tq rfl (Dr aa) (Tq rfl Pz ?_);refine AF rfl ?_;refine eK ?_;refine Jd rfl (fun ax=>?_) (fun ax=>?_);refine eK ?_;refine xR ?_;rotate_left;refine eK ?_;refine xR ?_;rotate_left
    . rw [AE Ab];exact ⟨rfl,X⟩
    . rw [AU Ab];exact ⟨rfl,X⟩
 . have N:Dq g.procs v k s l.length=0:=by unfold Dq;rw [AE Ab,AE Ab,AE Ab,AE Ab,AE Ab]
   rw [N];exact ⟨rfl,X⟩
end Bk
