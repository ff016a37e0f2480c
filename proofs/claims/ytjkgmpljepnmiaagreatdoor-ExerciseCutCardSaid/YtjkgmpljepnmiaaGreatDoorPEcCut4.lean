/- Texts that the proofs of ExerciseCut need. No condition. (Part 4 of 8.) -/
import Derived.Test.YtjkgmpljepnmiaaGreatDoorPEcCut3
set_option linter.unusedSimpArgs false
set_option linter.unusedVariables false
set_option linter.defProp false
set_option maxRecDepth 100000
set_option maxHeartbeats 4000000
open Go.Proofs.Tryz
open List renaming length_append->j9,length_cons->kf,getElem?_eq_getElem->kg,length_nil->ki,getElem_cons_succ->km,getElem_mem->kq,set_cons_zero->kx,take_succ_eq_append_getElem->ky,append_assoc->kA,cons_append->kD,take_length->kE,mem_cons->kF,not_mem_nil->kI,getElem?_eq_none->kO,length_take->kU,replicate->kV,take_append_drop->lf,flatten_cons->lg,drop_eq_getElem_cons->lh,nil_append->lk,append_nil->ll,take_succ_cons->lo,isEmpty_iff->lq,map_cons->lr,mem_cons_of_mem->lx,all_eq_true->lG,getElem?_append_right->lH,getElem?_append_left->lI,mem_singleton->lM
open Bool renaming and_eq_true->ke,false_eq_true->lj
open Go.Lib renaming hid->kh,indexByte->li
open Or renaming inl->kj,inr->kp
open Go.Result renaming andThen->kn,andThen_ok->lw
open Nat renaming le_refl->kv,zero_le->kC,blt->kH,lt_or_ge->kK,le_trans->kW,le_of_ble_eq_true->kY,eq_of_beq_eq_true->ln,ble->lD,beq->lE
open Option.some renaming injEq->kz,inj->kG
open Go.Sem renaming run_bind->kB,run_pure->kJ
open Go renaming Calls->kL
open Go.IntWalk renaming i64_in->kN
open Go.Region renaming ready->kP,binds->lF
open List.cons renaming injEq->kQ
open Go.Value.slice renaming injEq->kT
open Prod.mk renaming injEq->kX
open Go.DataW renaming trod->kZ
open Array renaming getElem?_eq_none->ld
open Go.Value renaming slice->lm,ownBlock->lp
open Go.Addr renaming add->lA
open Go.Oper renaming wp->lJ
open Bk.Ext renaming refl->lN
open Bk.Nd renaming size->lR
open Bk.Blk renaming fr->lW,cell->lX,ext->l7,row->l8
open Bk.Nd.sits renaming wide->lY
open Bk.Fr renaming refl->mb,of_ext->mi
open Bk.Le renaming refl->mp
open Bk.Arr renaming get->mq
open Bk.CW renaming sub->mA
namespace Bk
open Go Go.RowKit Go.Proofs
attribute [local irreducible] Go.Calls
def YC (t:lB):Km binMap t=(Ff t).map fun k=>.int .u8 k:=by
 unfold binMap Ff;generalize f:[(8:Int),9,10,11,12,13,14,15,16,17,18,19,20,21,22,23]=L;clear f
 induction L with
 | nil=>rfl
 | cons k r E=>
  simp only [lr,Km,List.find?_cons];by_cases h:Cl k=t
  . simp [h]
  . rw [At (fun e=>h e.symm),E];simp [h]
def Q0 (k:Int) (f:8<=k) (h1:k<=23):1<=Bv k/\Bv k<=8:=by
 have:k=8\/k=9\/k=10\/k=11\/k=12\/k=13\/k=14\/k=15\/k=16\/k=17\/k=18\/k=19\/k=20\/k=21\/k=22\/k=23:=by omega
 rcases this with rfl|rfl|rfl|rfl|rfl|rfl|rfl|rfl|rfl|rfl|rfl|rfl|rfl|rfl|rfl|rfl<;>decide
def fV (c:PC) (k:Nat) (IH : ∀j,j<=k->ExprsC c j):eC c (k+1):=by
 intro lv σ w F hk b9 ca;have X:=mb (· = c.pb) w;have cb:=F.pbB;have hB:=F.B;have bj:=F.len;rw [show Bu c.ts c.n (k+1) lv σ=BQ c.ts c.n k lv (Ba c.ts c.n k σ).1 (Ba c.ts c.n k σ).2 from by rw [Bu]];have hu:=((Fm (ts:=c.ts) (n:=c.n) k).2.2.1 σ F.at_).1;have hf:4*mS c.ts σ+3<=k:=by omega
 have an:4*mS c.ts (Ba c.ts c.n k σ).2+1<=k:=by have:=BN hu;omega
 refine Ae func276 ntmps276 rfl rfl ?_;refine cS (eA [_,_,_,_] ?_);intro b1 w2 f x6 p7 z8;revert F X;refine eE x6 ?_;intro F X;refine eK ?_;refine eQ rfl ((IH k (kv _)).unary _ _ Af hf) ?_;rintro _ cc ⟨a9,⟨a2,⟨⟨⟩,⟨ad,⟨ak,al⟩⟩⟩⟩⟩;have cd:=al.size;have f:=f.fr al Aa;clear F;have X:=X.fr al Aa;refine xA [_,_,_,_] ?_;intro am ce a3;refine eI [_,_,_,_] a3 ?_;intro a4 ao a5 cf cg;revert ad ak f X;refine eE a5 ?_;intro ad ak f X;refine cT (Ax ?_);refine AM (ι:=Nat×Nd×oA×Nat×PS) (fun _=>[(0,.pointer (some ⟨c.pb,0,none⟩)),(1,.int .i64 lv),(4,.pointer (some ⟨b1,0,none⟩)),(5,.pointer (some ⟨am,0,none⟩))])
  (fun x w'=>PP c x.2.2.2.2 w'/\Blk w' am (x.2.1.cells x.2.2.1 x.2.2.2.1)/\x.2.1.sits (fun b=>w.heap.size<=b/\b≠b1/\b≠am) w' x.2.2.1/\Blk w' b1 [.int .u8 0,.int .i64 0,.string ⟨#[]⟩,.slice none 0 0]/\Fr (· = c.pb) w w'/\a4.heap.size<=w'.heap.size /\
   BQ c.ts c.n k lv (Ba c.ts c.n k σ).1 (Ba c.ts c.n k σ).2=BQ c.ts c.n x.1 lv x.2.1 x.2.2.2.2/\4*mS c.ts x.2.2.2.2+1<=x.1/\x.1<=k) (fun x=>x.1) (k,(Ba c.ts c.n k σ).1,a9,a2,(Ba c.ts c.n k σ).2) sB
  ⟨ak,ao,ad.wide (fun b h=>⟨Aa,Aa,Aa⟩),f,X,kv _,rfl,an,kv _⟩ ?_
 rintro ⟨j,x,xa,xc,σ'⟩ w1 ⟨F,f,E,L,X,hz,he,a6,a7⟩;simp only at F f E he a6 a7;rw [he];clear he hu hf an ao ad;obtain ⟨j,rfl⟩ : ∃i,j=i+1:=⟨j-1,Aa⟩;have hg:=YC (Aq c.ts σ').text;cases hb:Ff (Aq c.ts σ').text with
 | none=>
  rw [show BQ c.ts c.n (j+1) lv x σ'=(x,σ') from by rw [BQ];simp [hb]];rw [hb] at hg;simp only [Option.map_none] at hg;refine eK ?_;refine AE (fun U=>Ext w1 U) 12 (.pure 0 (.pure 1 (.pure 2 (.pure 3 (.pure 4 (.fork 5 (.pure 6 (.pure 7 (.pure 8 (.pure 9 (.pure 10 (.pure 11 .tail)))))) .none)))))) mixed BD (Ac (Ak (Ac (Ak An)))) ?_;intro a8 ap _;have V:(fun U=>Ext w1 U) a8:=ap;simp only at V;have M:=F;have ae:=f;have af:=E;have ag:=L;revert F f E L X;refine eY ap ?_;intro ch F f E L X;refine ⟨V,?_⟩;refine eT ?_;refine Tq rfl (AA Ab rfl rfl rfl (fun U hz=>lX (l7 (PP.blk M) hz) rfl)) (Tq rfl Mv ?_);refine tC rfl rfl (Bf _ _ _ Af) ?_;rintro _ ci ⟨⟨⟩,ba⟩;revert V F f E L X;refine eY ba ?_;intro cj V F f E L X;refine ⟨V,?_⟩;refine Tq rfl (AU Ab rfl rfl rfl rfl rfl rfl) (Tq rfl (OB Ab rfl rfl rfl rfl rfl (fun U hz=>MapIs.ext (PP.map M) hz) Af) (Tq rfl Mv (Tq rfl Px (Tq rfl Px (Tq rfl Pa ?_)))));refine AI rfl ?_;refine eK ?_;refine eS [_,_,_,_] L ?_;intro ck aq ar bk;revert F f E X;refine eF ar ?_;intro F f E X;refine eK ?_;refine xC aq ?_;exact AW (lY E (fun b h=>h.1)) Af X
 | some op=>
  rw [hb] at hg;simp only [Option.map_some] at hg;obtain ⟨bb,o1,o2,-⟩:=Gz hb;obtain ⟨bc,ac⟩:=Cc F.at_ (kj bb);have hm:=Ck (ts:=c.ts) (σ:=σ') ⟨bc,ac⟩;have cl:=Q0 op o1 o2;by_cases hl:Bv op<lv
  . rw [show BQ c.ts c.n (j+1) lv x σ'=(x,σ') from by rw [BQ];simp [hb,hl]]
    focus
     refine eK ?_;refine AE (fun U=>Ext w1 U) 12 (.pure 0 (.pure 1 (.pure 2 (.pure 3 (.pure 4 (.fork 5 (.pure 6 (.pure 7 (.pure 8 (.pure 9 (.pure 10 (.pure 11 .tail)))))) .none)))))) mixed BD (Ac (Ak (Ac (Ak An)))) ?_;intro bd au _;have Y:(fun U=>Ext w1 U) bd:=au;simp only at Y;have M:=F;have ae:=f;have af:=E;have ag:=L;revert F f E L X;refine eY au ?_;intro cm F f E L X;refine ⟨Y,?_⟩;refine eT ?_;refine Tq rfl (AA Ab rfl rfl rfl (fun U hz=>lX (l7 (PP.blk M) hz) rfl)) (Tq rfl Mv ?_);refine tC rfl rfl (Bf _ _ _ Af) ?_;rintro _ cn ⟨⟨⟩,be⟩;revert Y F f E L X;refine eY be ?_;intro co Y F f E L X;refine ⟨Y,?_⟩;refine Tq rfl (AU Ab rfl rfl rfl rfl rfl rfl) (Tq rfl (JO Ab rfl rfl rfl rfl rfl (fun U hz=>MapIs.ext (PP.map M) hz) Af) (Tq rfl Mv (Tq rfl Px (Tq rfl Px (Tq rfl Pa ?_)))));refine AI rfl ?_;refine eK ?_;refine cC rfl (D4 _ _ Aa Aa) ?_;rintro _ cp ⟨⟨⟩,rfl⟩;refine eK ?_;refine eS [_,_,_,_] L ?_;intro cq av aw bm;revert F f E X;refine eF aw ?_;intro F f E X;refine eK ?_;refine xC av ?_;rotate_left
    exact AW (lY E (fun b h=>h.1)) Af X
  . rw [show BQ c.ts c.n (j+1) lv x σ'=BQ c.ts c.n j lv (.mk op 0 [] [x,(Bu c.ts c.n j (Bv op+1) (Ap σ')).1]) (Bu c.ts c.n j (Bv op+1) (Ap σ')).2 from by rw [BQ];simp [hb,hl]];have bf:4*mS c.ts (Ap σ')+4<=j:=by omega
    have bg:=((Fm (ts:=c.ts) (n:=c.n) j).1 (Bv op+1) (Ap σ') ac).1;have cr:=BN bg;refine eK ?_;refine AE (fun U=>Ext w1 U) 12 (.pure 0 (.pure 1 (.pure 2 (.pure 3 (.pure 4 (.fork 5 (.pure 6 (.pure 7 (.pure 8 (.pure 9 (.pure 10 (.pure 11 .tail)))))) .none)))))) mixed BD (Ac (Ak (Ac (Ak An)))) ?_;intro bh ax _;have Z:(fun U=>Ext w1 U) bh:=ax;simp only at Z;have M:=F;have ae:=f;have af:=E;have ag:=L;revert F f E L X;refine eY ax ?_;intro ct F f E L X;refine ⟨Z,?_⟩;refine eT ?_;refine Tq rfl (AA Ab rfl rfl rfl (fun U hz=>lX (l7 (PP.blk M) hz) rfl)) (Tq rfl Mv ?_);refine tC rfl rfl (Bf _ _ _ Af) ?_;rintro _ cu ⟨⟨⟩,bi⟩;revert Z F f E L X;refine eY bi ?_;intro cv Z F f E L X;refine ⟨Z,?_⟩;refine Tq rfl (AU Ab rfl rfl rfl rfl rfl rfl) (Tq rfl (JO Ab rfl rfl rfl rfl rfl (fun U hz=>MapIs.ext (PP.map M) hz) Af) (Tq rfl Mv (Tq rfl Px (Tq rfl Px (Tq rfl Pa ?_)))));refine AI rfl ?_;refine eK ?_;refine cC rfl (D4 _ _ Aa Aa) ?_;rintro _ cw ⟨⟨⟩,rfl⟩;refine Bl rfl rfl rfl (rfl) (C1 Mv (Bl rfl rfl rfl (rfl) (C1 V3 (C1 (Cd rfl rfl rfl) (cT (TG (Av (Ai (cS (C1 Mv (C1 Pn ?_)))))))))));refine C1 Pf (C1 (Pl (PP.blk F)) ?_);refine eK ?_;refine Cr Ab rfl rfl rfl rfl Af ac ?_;rintro cx bn ah;have bo:=ah.size;clear F;revert f E L X;refine eF ah ?_;intro f E L X;refine eK ?_;refine cC rfl (D4 _ _ Aa Aa) ?_;rintro _ bp ⟨⟨⟩,rfl⟩;refine C1 V7 (eQ rfl ((IH j Aa).expr _ _ _ Af bf Aa Aa) ?_);rintro _ bq ⟨br,⟨bs,⟨⟨⟩,⟨N,⟨O,ai⟩⟩⟩⟩⟩;have bt:=ai.size;revert f E L X;refine eF ai ?_;intro f E L X;refine xA [_,_,_,_] ?_;intro bu bv ay;refine eI [_,_,_,_] ay ?_;intro bw aa az bx bz;revert N O f E L X;refine eE az ?_;intro N O f E L X;refine eK ?_;refine Au (xS [_,_,_,_,_,_,_,_]) rfl ?_ aFh;rintro _ b0 ⟨b2,rfl,ab,b3⟩;have aj:=ab.blk;have a0:=ab.ext;have b4:=ab.pos;have b5:=ab.size;revert aa N O f E L X;refine eE a0 ?_;intro aa N O f E L X;refine C1 (xB [_,_,_,_]) (eS [_,_,_,_] f ?_);intro b6 b7 a1 b8;revert aj aa N O E L X;refine eF a1 ?_;intro aj aa N O E L X;refine Ah (Ad ?_)
    refine Ay (j,.mk op 0 [] [x,(Bu c.ts c.n j (Bv op+1) (Ap σ')).1],some ⟨_,0,none⟩,2,(Bu c.ts c.n j (Bv op+1) (Ap σ')).2) sB ⟨Af,Af,Lo Af ⟨Aa,Aa,Aa⟩ E (fun b h=>h) Af (fun b h=>⟨Aa,Aa,Aa⟩),Af,X,Aa,rfl,by simp only;omega,by simp only;omega⟩ A6
def EN (c:PC) (k:Nat):ExprsC c k:=by
 induction k using Nat.strongRecOn with
 | _ k E=>
  cases k with
  | zero=>exact ⟨fun _ _ _ _ h=>by omega,fun _ _ _ h=>by omega,fun _ _ _ h=>by omega,fun _ _ _ h=>by omega⟩
  | succ k=>
   have f : ∀j,j<=k->ExprsC c j:=fun j F=>E j Aa
   exact ⟨fV c k f,aX c k f,WM c k f,aW c k f⟩
def BW (s:lB):Bool:=match s with
 | []=>false
 | c::_=>B5 c
section
variable (ts:List Tok) (n:Int)
end
section
variable {ts:List Tok} {n:Int}
end
section
variable {ts:List Tok} {n:Int}
def YD {op:Int} (f:8<=op) (h1:op<=23):1<=Bv op/\Bv op<=8:=by
 have:op=8\/op=9\/op=10\/op=11\/op=12\/op=13\/op=14\/op=15\/op=16\/op=17\/op=18\/op=19\/op=20\/op=21\/op=22\/op=23:=by omega
 rcases this with rfl|rfl|rfl|rfl|rfl|rfl|rfl|rfl|rfl|rfl|rfl|rfl|rfl|rfl|rfl|rfl<;>decide
def AZ (ts:List Tok):Prop:= ∀t∈ts,t.kind=2↔BW t.text=true
end
section
variable (ts:List Tok) (n:Int)
end
section
variable {ts:List Tok} {n:Int}
def Nr {σ:PS} (h:σ.at_<=ts.length):Le ts σ (DN ts n σ).2:=AO h
def Q1 (k:Nat) : ∀acc σ,σ.at_<=ts.length->Le ts σ (CK ts n k acc σ).2:=by
 induction k with
 | zero=>intro acc σ h;rw [CK];exact mp h
 | succ k E=>
  intro acc σ h;rw [CK];split
  . rename_i F;have h1:=AB (AP h F Ao);split
    . have f:=h1.trans (B6 (off:=(Aq ts (Ap σ)).pos) (e:=5) h1.wf);exact (f.trans (Nr f.wf)).trans (E _ _ (Nr f.wf).wf)
    . exact (h1.trans (Nr h1.wf)).trans (E _ _ (Nr h1.wf).wf)
  . exact mp h
end
section
variable {ts:List Tok} {n:Int}
abbrev In (ts:List Tok) (σ:PS):Prop:=σ.err=0/\σ.at_<ts.length
def DZ {k:Nat} {lv:Int} {σ:PS} (h:σ.at_<=ts.length):Le ts σ (Bu ts n k lv σ).2:=((Fm k).1 lv σ h).1
def GB {k:Nat} {σ:PS} (h:σ.at_<=ts.length):Le ts σ (Bz ts n k σ).2:=((Fm k).2.2.2.2 σ h).1
def Sf {k:Nat} {kind:Int} {σ:PS} (E:In ts σ):Le ts σ (Fy ts n k kind σ).2:=by
 unfold Fy;have h1:=AB E;have f:=h1.trans (GB (n:=n) (k:=k) h1.wf);have h:=f.trans (As (n:=n) (t:=[44]) f.wf Ao);exact h.trans (AO h.wf)
def ML {k:Nat} {kind:Int} {σ:PS} (f:In ts σ):Le ts σ (Gs ts n k kind σ).2:=by
 unfold Gs;have h1:=AB f;exact h1.trans (GB (n:=n) (k:=k) h1.wf)
def Vp {k:Nat} {kind:Int} {σ:PS} (F:In ts σ):Le ts σ (Ft ts n k kind σ).2:=by
 unfold Ft;have h1:=AB F;have E:=h1.trans (AO (n:=n) h1.wf);have f:=E.trans (As (n:=n) (t:=[40]) E.wf Ao);simp only;split
 . rename_i L;exact f.trans (AB (AP f.wf L Ao))
 . have h:=f.trans (Nr (n:=n) f.wf);exact (h.trans (Q1 (n:=n) k _ _ h.wf)).trans (As (Q1 (n:=n) k _ _ h.wf).wf Ao)
def Ns {t:lB} (h : ¬CA t=0):t≠[]:=by rintro rfl;exact h Ao
def WN {k:Nat} {σ:PS} (h:σ.at_<=ts.length):Le ts σ (Di ts n k σ).2:=by
 unfold Di;have h1:=GB (n:=n) (k:=k) h;simp only;split
 . rename_i E;have f:=h1.trans (AB (AP h1.wf E Ao));exact f.trans (GB f.wf)
 . split
   . exact h1.trans (Hu h1.wf)
   . rename_i E;have f:=h1.trans (AB (Cc h1.wf (kj (Ns E))));exact f.trans (DZ f.wf)
def Ei (k:Nat):(∀ σ,σ.at_<=ts.length->Le ts σ (Bm ts n k σ).2)/\(∀kind F E σ,In ts σ->F≠[]->E≠[]->Le ts σ (BM ts n k kind F E σ).2)/\(∀ σ,In ts σ->Le ts σ (Dy ts n k σ).2) /\
 (∀ σ,σ.at_<=ts.length->Le ts σ (Co ts n k σ).2)/\(∀acc σ,σ.at_<=ts.length->Le ts σ (Cz ts n k acc σ).2):=by
 induction k with
 | zero=>
  refine ⟨fun σ h=>?_,fun kind F E σ h _ _=>?_,fun σ h=>?_,fun σ h=>?_,fun acc σ h=>?_⟩
  . rw [Bm];exact mp h
  . rw [BM];exact mp (Nat.le_of_lt h.2)
  . rw [Dy];exact mp (Nat.le_of_lt h.2)
  . rw [Co];exact mp h
  . rw [Cz];exact mp h
 | succ k ih=>
  obtain ⟨iS,iB,iL,Y,iT⟩:=ih;refine ⟨fun σ h=>?_,fun kind F E σ Z O N=>?_,fun σ Z=>?_,fun σ h=>?_,fun acc σ h=>?_⟩
  . rw [Bm];have f : ∀t:lB,t≠[]->(Aq ts σ).text=t->In ts σ:=fun t ht e=>Cc h (kj (by rw [e];exact ht))
    by_cases c:(Aq ts σ).text=[112,117,115,104]
    . rw [AH c];exact Sf (f _ Ao c)
    rw [At c];clear c;by_cases c:(Aq ts σ).text=[112,111,112]
    . rw [AH c];exact Sf (f _ Ao c)
    rw [At c];clear c;by_cases c:(Aq ts σ).text=[114,101,97,100]
    . rw [AH c];exact ML (f _ Ao c)
    rw [At c];clear c;by_cases c:(Aq ts σ).text=[117,110,114,101,97,100]
    . rw [AH c];exact ML (f _ Ao c)
    rw [At c];clear c;by_cases c:(Aq ts σ).text=[119,114,105,116,101]
    . rw [AH c];exact ML (f _ Ao c)
    rw [At c];clear c;by_cases c:(Aq ts σ).text=[117,110,119,114,105,116,101]
    . rw [AH c];exact ML (f _ Ao c)
    rw [At c];clear c;by_cases c:(Aq ts σ).text=[99,97,108,108]
    . rw [AH c];exact Vp (f _ Ao c)
    rw [At c];clear c;by_cases c:(Aq ts σ).text=[117,110,99,97,108,108]
    . rw [AH c];exact Vp (f _ Ao c)
    rw [At c];clear c;by_cases c:(Aq ts σ).text=[105,102]
    . rw [AH c];exact iB _ _ _ _ (f _ Ao c) Ao Ao
    rw [At c];clear c;by_cases c:(Aq ts σ).text=[102,114,111,109]
    . rw [AH c];exact iB _ _ _ _ (f _ Ao c) Ao Ao
    rw [At c];clear c;by_cases c:(Aq ts σ).text=[108,111,99,97,108]
    . rw [AH c];exact iL _ (f _ Ao c)
    rw [At c];clear c;exact WN h
  . rw [BM];have h1:=AB Z;have L:=h1.trans (DZ (n:=n) (k:=k) (lv:=1) h1.wf);have M:=L.trans (Y _ L.wf);have U:=M.trans (As (n:=n) (t:=F) M.wf O);have V:=U.trans (Y _ U.wf);have X:=V.trans (As (n:=n) (t:=E) V.wf N);exact X.trans (DZ X.wf)
  . rw [Dy];have h1:=AB Z;split
    . rename_i hh;have L:=h1.trans (AB (AP h1.wf hh Ao));have M:=L.trans (AO (n:=n) L.wf);exact M.trans (Y _ M.wf)
    . have L:=h1.trans (AO (n:=n) h1.wf);have M:=L.trans (As (n:=n) (t:=[61]) L.wf Ao);have U:=M.trans (DZ (n:=n) (k:=k) (lv:=1) M.wf);have V:=U.trans (Y _ U.wf);have X:=V.trans (As (n:=n) (t:=[100,101,108,111,99,97,108]) V.wf Ao);exact X.trans (DZ X.wf)
  . rw [Co];have h1:=As (n:=n) (t:=[123]) h Ao;exact h1.trans (iT [] _ h1.wf)
  . rw [Cz];split
    . exact mp h
    . split
      . rename_i hh;exact AB (AP h hh Ao)
      . have h1:=iS σ h;have L:=h1.trans (As (n:=n) (t:=[59]) h1.wf Ao);exact L.trans (iT _ _ L.wf)
end
def Mb (c:PC) (k:Nat) (kind:Int) (σ:PS) (w:wD) (Y:PP c σ w) (hi:In c.ts σ) (hk:4*mS c.ts σ<=k) :
 Calls prog 257 #[.pointer (some ⟨c.pb,0,none⟩),.int .u8 kind] w (TreeR c w (Fy c.ts c.n k kind σ)):=by
 have X:=mb (· = c.pb) w;have az:=Y.pbB;have hB:=Y.B;have ax:=Y.len;have h2:=hi.2;have hm:=Ck hi;have hf:4*mS c.ts (Ap σ)+1<=k:=by omega
 refine Ae func257 ntmps257 rfl rfl ?_
 focus
  refine cS (eA [_,_,_,_] ?_);intro b1 w2 L x6 p7 z8;revert Y X;refine eE x6 ?_;intro Y X;refine cN (C1 Mv (C1 Pn (C1 Pf (C1 (Pl (PP.blk Y)) ?_))));refine eK ?_;refine Cr Ab rfl rfl rfl rfl Af h2 ?_;rintro w9 a0 Z;have a1:=Z.size;have L:=L.fr Z Aa;clear Y;have X:=X.fr Z Aa;refine eK ?_;refine eQ rfl ((EN c k).place _ _ Af hf) ?_;rintro _ a2 ⟨a3,⟨a4,⟨⟨⟩,⟨E,⟨ad,ae⟩⟩⟩⟩⟩;have a5:=ae.size;revert L X;refine eF ae ?_;intro L X;refine xA [_,_,_,_] ?_;intro a6 a7 ak;refine eI [_,_,_,_] ak ?_;intro a8 F al a9 ba;revert E ad L X;refine eE al ?_;intro E ad L X;refine eK ?_;refine cC rfl (B3 _ _ _ _ Af Ao) ?_;rintro _ af ⟨⟨⟩,⟨M,ag⟩⟩;revert F E;refine eZ ag ?_;intro z31 F E;revert L X;refine eF ag ?_;intro L X;refine eK ?_;refine AE (fun wz=>Fr (· = c.pb) af wz) 5 (.pure 0 (.pure 1 (.pure 3 (.fork 2 (.fork 4 .tail .none) (.fork 4 (.fork 2 .tail .none) .none))))) mixed BD (Ac An) ?_;intro am aa _;have f:(fun wz=>Fr (· = c.pb) af wz) am:=mi aa;simp only at f;have an:=M;have ab:=F;have ao:=E;have ay:=L;have bb:=aa.size;revert M F E L X;refine eE aa ?_;intro M F E L X;refine ⟨f,?_⟩;refine Tq rfl Mv (Tq rfl Mv (Tq rfl (xL [_,_,_,_] (fun wz hz=>(lW ab hz Aa))) ?_));refine A1 rfl (By BD rfl (FC _ _ _ Af) (fun _ _ h=>⟨_,h.1⟩)) rfl ?_ aFh ?kr;rintro _ bc ⟨⟨⟩,⟨N,ac⟩⟩;have bd:=ac.size;have f:=f.fr ac Aa;revert F E L X;refine eF ac ?_;intro F E L X;refine ⟨f,?_⟩;refine A1 rfl (xS [_,_,_,_]) rfl ?_ aFh A9;rintro _ be ⟨bf,rfl,O,bg⟩;have ah:=O.blk;have ap:=O.ext;have bh:=O.pos;have bi:=O.size;revert N f F E L X;refine eE ap ?_;intro N f F E L X;refine ⟨f,?_⟩;refine AI rfl (C1 (xB [_,_,_,_]) (eS [_,_,_,_] L ?_));intro bj aq ar z51;revert ah N F E X;refine eF ar ?_;intro ah N F E X;refine eK ?_;refine xC aq ?_;rotate_left;refine A1 rfl (xS [_,_,_,_]) rfl ?_ aFh A9;rintro _ bk ⟨bm,rfl,U,bn⟩;have V:=U.blk;have au:=U.ext;have bo:=U.pos;have bp:=U.size;revert f M F E L X
  refine eE au ?_;intro f M F E L X;refine ⟨f,?_⟩;refine tC rfl rfl (FC _ _ _ Af) ?_;rintro _ bq ⟨⟨⟩,⟨ai,aj⟩⟩;revert V f;refine eZ aj ?_;intro br V f;revert F E L X;refine eF aj ?_;intro F E L X;refine ⟨f,?_⟩;refine AI rfl (C1 (xB [_,_,_,_]) (eS [_,_,_,_] L ?_));intro bs av aw bt;revert ai V F E X;refine eF aw ?_;intro ai V F E X;refine eK ?_;refine xC av ?_;rotate_left
 all_goals exact AW (Ln Af Aa Af (fun b h=>by omega)) Af X
def Iz (c:PC) (k:Nat) (kind:Int) (σ:PS) (w:wD) (L:PP c σ w) (hi:In c.ts σ) (hk:4*mS c.ts σ<=k) :
 Calls prog 258 #[.pointer (some ⟨c.pb,0,none⟩),.int .u8 kind] w (TreeR c w (Gs c.ts c.n k kind σ)):=by
 have X:=mb (· = c.pb) w;have ab:=L.pbB;have hB:=L.B;have aa:=L.len;have h2:=hi.2;have hm:=Ck hi;have hf:4*mS c.ts (Ap σ)+1<=k:=by omega
 refine Ae func258 ntmps258 rfl rfl ?_;refine cS (eA [_,_,_,_] ?_);intro b1 w2 M x6 p7 z8;revert L X;refine eE x6 ?_;intro L X;refine cN (C1 Mv (C1 Pn (C1 Pf (C1 (Pl (PP.blk L)) ?_))));refine eK ?_;refine Cr Ab rfl rfl rfl rfl Af h2 ?_;rintro w9 ac N;have ad:=N.size;have M:=M.fr N Aa;clear L;have X:=X.fr N Aa;refine eK ?_;refine eQ rfl ((EN c k).place _ _ Af hf) ?_;rintro _ ae ⟨af,⟨ag,⟨⟨⟩,⟨f,⟨E,O⟩⟩⟩⟩⟩;have ah:=O.size;revert M X;refine eF O ?_;intro M X;refine Au (xS [_,_,_,_]) rfl ?_ aFh;rintro _ ai ⟨aj,rfl,F,ak⟩;have U:=F.blk;have V:=F.ext;have al:=F.pos;have am:=F.size;revert f E M X;refine eE V ?_;intro f E M X;refine C1 (xB [_,_,_,_]) (eS [_,_,_,_] M ?_);intro an Y Z z31;revert U f E X;refine eF Z ?_;intro U f E X;refine eK ?_;refine xC Y ?_;all_goals exact AW (Ln Af Aa Af (fun b h=>by omega)) Af X
def YE (c:PC) (k:Nat) (σ:PS) (w:wD) (hP:PP c σ w) (hk:4*mS c.ts σ+1<=k) :
 Calls prog 262 #[.pointer (some ⟨c.pb,0,none⟩)] w (TreeR c w (Di c.ts c.n k σ)):=by
 have X:=mb (· = c.pb) w;have hq:=hP.pbB;have hB:=hP.B;have dm:=hP.len;have hl:=GB (n:=c.n) (k:=k) hP.at_;have hm:=BN hl;have b0:=hl.wf;unfold Di;generalize hp:Bz c.ts c.n k σ=p at *;have a4 : ∀ {w':wD},PP c σ w'->Calls prog 274 #[.pointer (some ⟨c.pb,0,none⟩)] w' (TreeR c w' p):=fun h=>hp▸(EN c k).place _ _ h hk
 clear hl;by_cases a5:(Aq c.ts p.2).text=[60,61,62]
 . have hh:B1 c.ts p.2 [60,61,62]=true:=by simp [B1,a5]
   simp only [hh,if_true];have a8:=AP b0 hh Ao;have c7:=Ck a8;have h2:=a8.2;have hf:4*mS c.ts (Ap p.2)+1<=k:=by omega
   refine Ae func262 ntmps262 rfl rfl ?_;refine cS (eA [_,_,_,_] ?_);intro b1 w2 h5 x6 p7 z8;revert hP X;refine eE x6 ?_;intro hP X;refine eK ?_;refine eQ rfl (a4 Af) ?_;rintro _ hr ⟨a9,⟨hs,⟨⟨⟩,⟨ac,⟨ba,bx⟩⟩⟩⟩⟩;have ht:=bx.size;have h5:=h5.fr bx Aa;clear hP;have X:=X.fr bx Aa;refine xA [_,_,_,_] ?_;intro hv hw c8;refine eI [_,_,_,_] c8 ?_;intro hx ae c9 hy hz;revert ac ba h5 X;refine eE c9 ?_;intro ac ba h5 X;refine eK ?_;refine cC rfl (Bf _ _ _ Af) ?_;rintro _ h0 ⟨⟨⟩,da⟩;revert ae ac ba h5 X;refine eY da ?_;intro h3 ae ac ba h5 X;refine C1 (AU Ab rfl rfl rfl rfl rfl rfl) (cT (Ax (cS (C1 V8 (C1 Pa (cT (FQ rfl (fun M=>absurd (a5.symm.trans M) Ao) (cS (C1 V8 (C1 Pa (cT ?_)))))))))));refine FQ rfl (fun M=>absurd (a5.symm.trans M) Ao) (cS (C1 V8 (C1 Pa (cT (FQ rfl (fun M=>absurd (a5.symm.trans M) Ao) (cS (C1 V8 (C1 Pa (cT (FQ rfl (fun M=>absurd (a5.symm.trans M) Ao) (cS ?_)))))))))));refine C1 V8 (C1 Pa (cT (TH (cS (C1 Mv (C1 Pn (C1 Pf (C1 (Pl (PP.blk ba)) ?_))))))));refine eK ?_;refine Cr Ab rfl rfl rfl rfl Af h2 ?_;rintro h4 h6 b2;revert ae ac;refine eZ b2 ?_;intro h7 ae ac;revert h5 X;refine eF b2 ?_;intro h5 X;refine eK ?_;refine eQ rfl ((EN c k).place _ _ Af hf) ?_;rintro _ h8 ⟨a31,⟨h9,⟨⟨⟩,⟨a6,⟨a7,b3⟩⟩⟩⟩⟩;have z37:=b3.size;revert ae ac h5 X;refine eF b3 ?_;intro ae ac h5 X;refine xA [_,_,_,_] ?_;intro ia ib db;refine eI [_,_,_,_] db ?_;intro ic bg dc id ie;revert a6 a7 ae ac h5 X;refine eE dc ?_;intro a6 a7 ae ac h5 X;refine eK ?_;refine Au (xS [_,_,_,_,_,_,_,_]) rfl ?_ aFh;rintro _ ig ⟨ih,rfl,bh,ii⟩;have b4:=bh.blk;have dd:=bh.ext;have ij:=bh.pos;have z53:=bh.size;revert bg a6 a7 ae ac h5 X;refine eE dd ?_;intro bg a6 a7 ae ac h5 X;refine C1 (xB [_,_,_,_]) (eS [_,_,_,_] h5 ?_);intro il de df im;revert b4 bg a6 a7 ae ac X;refine eF df ?_;intro b4 bg a6 a7 ae ac X;refine eK ?_;refine xC de ?_
   all_goals exact AW (Lo Af Aa Af (fun b h=>by omega) Af (fun b h=>by omega)) Af X
 . have hh:B1 c.ts p.2 [60,61,62]=false:=by simp [B1,a5]
   simp only [hh,lj,if_false];by_cases hu:CA (Aq c.ts p.2).text=0
   . rw [AH hu];have n1:(Aq c.ts p.2).text≠[43,61]:=fun e=>by rw [e] at hu;exact absurd hu Ao
     have n2:(Aq c.ts p.2).text≠[45,61]:=fun e=>by rw [e] at hu;exact absurd hu Ao
     have n3:(Aq c.ts p.2).text≠[94,61]:=fun e=>by rw [e] at hu;exact absurd hu Ao
     have n4:(Aq c.ts p.2).text≠[58,61]:=fun e=>by rw [e] at hu;exact absurd hu Ao
     refine Ae func262 ntmps262 rfl rfl ?_;refine cS (eA [_,_,_,_] ?_);intro io ip ao dg iq ir;revert hP X;refine eE dg ?_;intro hP X;refine eK ?_;refine eQ rfl (a4 Af) ?_;rintro _ dn ⟨it,⟨dp,⟨⟨⟩,⟨ad,⟨av,bb⟩⟩⟩⟩⟩;have dq:=bb.size;have ao:=ao.fr bb Aa;clear hP;have X:=X.fr bb Aa;refine xA [_,_,_,_] ?_;intro dr ds b5;refine eI [_,_,_,_] b5 ?_;intro dt af b6 du dv;revert ad av ao X;refine eE b6 ?_;intro ad av ao X;refine eK ?_;refine cC rfl (Bf _ _ _ Af) ?_;rintro _ dw ⟨⟨⟩,b7⟩;revert af ad av ao X;refine eY b7 ?_;intro dx af ad av ao X;refine C1 (AU Ab rfl rfl rfl rfl rfl rfl) ?_;refine eK ?_;refine cC rfl (Ez _ _ _ Af) ?_;rintro _ dy ⟨⟨⟩,⟨bi,bj⟩⟩;revert af ad;refine eZ bj ?_;intro dz af ad;revert ao X;refine eF bj ?_;intro ao X;refine cN (C1 (xB [_,_,_,_]) (eS [_,_,_,_] ao ?_));intro d0 b8 b9 d1;revert bi af ad X;refine eF b9 ?_;intro bi af ad X;refine eK ?_;refine xC b8 ?_;all_goals exact AW Dp Af X
   . rw [At hu];have a8:=Cc b0 (kj (Ns hu));have c7:=Ck a8;have h2:=a8.2;have hf:4*mS c.ts (Ap p.2)+4<=k:=by omega
     have bz:(Aq c.ts p.2).text=[43,61]\/(Aq c.ts p.2).text=[45,61]\/(Aq c.ts p.2).text=[94,61]\/(Aq c.ts p.2).text=[58,61]:=by
      unfold CA at hu;by_cases e1:(Aq c.ts p.2).text=[43,61]
      . exact kj e1
      by_cases e2:(Aq c.ts p.2).text=[45,61]
      . exact kp (kj e2)
      by_cases e3:(Aq c.ts p.2).text=[94,61]
      . exact kp (kp (kj e3))
      by_cases e4:(Aq c.ts p.2).text=[58,61]
      . exact kp (kp (kp e4))
      . simp [e1,e2,e3,e4] at hu
     rcases bz with e|e|e|e
     . rw [show CA (Aq c.ts p.2).text=40 from by rw [e];decide];refine Ae func262 ntmps262 rfl rfl ?_;refine cS (eA [_,_,_,_] ?_);intro iu iv Y dh iw ix;revert hP X;refine eE dh ?_;intro hP X;refine eK ?_;refine eQ rfl (a4 Af) ?_;rintro _ d2 ⟨iy,⟨d3,⟨⟨⟩,⟨f,⟨ap,bc⟩⟩⟩⟩⟩;have d4:=bc.size;have Y:=Y.fr bc Aa;clear hP;have X:=X.fr bc Aa;refine xA [_,_,_,_] ?_;intro d5 d6 ca;refine eI [_,_,_,_] ca ?_;intro d7 N cb d8 d9;revert f ap Y X;refine eE cb ?_;intro f ap Y X;refine eK ?_;refine cC rfl (Bf _ _ _ Af) ?_;rintro _ ea ⟨⟨⟩,cc⟩;revert N f ap Y X;refine eY cc ?_;intro eb N f ap Y X;refine C1 (AU Ab rfl rfl rfl rfl rfl rfl) (cT (Ax (cS (C1 V8 (C1 Pa (cT (TH (Ag (C1 Pa (Ah (Ad ?_)))))))))));refine Ai (cS (C1 Mv (C1 Pn (C1 Pf (C1 (Pl (PP.blk ap)) ?_)))));refine eK ?_;refine Cr Ab rfl rfl rfl rfl Af h2 ?_;rintro ec ed bk;revert N f;refine eZ bk ?_;intro ee N f;revert Y X;refine eF bk ?_;intro Y X;refine eK ?_;refine eQ rfl ((EN c k).expr _ _ _ Af hf Ao Ao) ?_;rintro _ ef ⟨eg,⟨eh,⟨⟨⟩,⟨ag,⟨ah,bm⟩⟩⟩⟩⟩;have ei:=bm.size;revert N f Y X;refine eF bm ?_;intro N f Y X;refine xA [_,_,_,_] ?_;intro ej ek cd;refine eI [_,_,_,_] cd ?_;intro el aw ce em en;revert ag ah N f Y X;refine eE ce ?_;intro ag ah N f Y X;refine eK ?_;refine Au (xS [_,_,_,_,_,_,_,_]) rfl ?_ aFh;rintro _ eo ⟨ep,rfl,ax,eq⟩;have bn:=ax.blk;have cf:=ax.ext;have er:=ax.pos;have es:=ax.size;revert aw ag ah N f Y X;refine eE cf ?_;intro aw ag ah N f Y X;refine C1 (xB [_,_,_,_]) (eS [_,_,_,_] Y ?_);intro et cg ch eu;revert bn aw ag ah N f X;refine eF ch ?_;intro bn aw ag ah N f X;refine eK ?_;refine xC cg ?_
       all_goals exact AW (Lo Af Aa Af (fun b h=>by omega) Af (fun b h=>by omega)) Af X
     . rw [show CA (Aq c.ts p.2).text=41 from by rw [e];decide];refine Ae func262 ntmps262 rfl rfl ?_;refine cS (eA [_,_,_,_] ?_);intro iz i0 Z di i1 i2;revert hP X;refine eE di ?_;intro hP X;refine eK ?_;refine eQ rfl (a4 Af) ?_;rintro _ ew ⟨i3,⟨ey,⟨⟨⟩,⟨E,⟨aq,bd⟩⟩⟩⟩⟩;have ez:=bd.size;have Z:=Z.fr bd Aa;clear hP;have X:=X.fr bd Aa;refine xA [_,_,_,_] ?_;intro e0 e5 ci;refine eI [_,_,_,_] ci ?_;intro e6 O cj e7 e8;revert E aq Z X;refine eE cj ?_;intro E aq Z X;refine eK ?_;refine cC rfl (Bf _ _ _ Af) ?_;rintro _ e9 ⟨⟨⟩,ck⟩;revert O E aq Z X;refine eY ck ?_;intro fa O E aq Z X;refine C1 (AU Ab rfl rfl rfl rfl rfl rfl) (cT (Ax (cS (C1 V8 (C1 Pa (cT (FQ rfl (fun M=>absurd (e.symm.trans M) Ao) (cS (C1 V8 (C1 Pa (cT ?_)))))))))));refine TH (Ag (C1 Pa (Ah (Ad (Ai (cS (C1 Mv (C1 Pn (C1 Pf (C1 (Pl (PP.blk aq)) ?_))))))))));refine eK ?_;refine Cr Ab rfl rfl rfl rfl Af h2 ?_;rintro fc fd bo;revert O E;refine eZ bo ?_;intro fe O E;revert Z X;refine eF bo ?_;intro Z X;refine eK ?_;refine eQ rfl ((EN c k).expr _ _ _ Af hf Ao Ao) ?_;rintro _ ff ⟨fg,⟨fh,⟨⟨⟩,⟨ai,⟨aj,bp⟩⟩⟩⟩⟩;have fi:=bp.size;revert O E Z X;refine eF bp ?_;intro O E Z X;refine xA [_,_,_,_] ?_;intro fj fk cl;refine eI [_,_,_,_] cl ?_;intro fl ay cm fm fo;revert ai aj O E Z X;refine eE cm ?_;intro ai aj O E Z X;refine eK ?_;refine Au (xS [_,_,_,_,_,_,_,_]) rfl ?_ aFh;rintro _ fp ⟨fq,rfl,az,fs⟩;have bq:=az.blk;have cn:=az.ext;have ft:=az.pos;have fu:=az.size;revert ay ai aj O E Z X;refine eE cn ?_;intro ay ai aj O E Z X;refine C1 (xB [_,_,_,_]) (eS [_,_,_,_] Z ?_);intro fv co cp fw;revert bq ay ai aj O E X;refine eF cp ?_;intro bq ay ai aj O E X;refine eK ?_;refine xC co ?_
       all_goals exact AW (Lo Af Aa Af (fun b h=>by omega) Af (fun b h=>by omega)) Af X
     . rw [show CA (Aq c.ts p.2).text=42 from by rw [e];decide];refine Ae func262 ntmps262 rfl rfl ?_;refine cS (eA [_,_,_,_] ?_);intro i4 i5 aa dk i6 i7;revert hP X;refine eE dk ?_;intro hP X;refine eK ?_;refine eQ rfl (a4 Af) ?_;rintro _ fx ⟨i8,⟨fy,⟨⟨⟩,⟨F,⟨ar,be⟩⟩⟩⟩⟩;have fz:=be.size;have aa:=aa.fr be Aa;clear hP;have X:=X.fr be Aa;refine xA [_,_,_,_] ?_;intro f0 f1 cq;refine eI [_,_,_,_] cq ?_;intro f2 U cr f3 f4;revert F ar aa X;refine eE cr ?_;intro F ar aa X;refine eK ?_;refine cC rfl (Bf _ _ _ Af) ?_;rintro _ f5 ⟨⟨⟩,ct⟩;revert U F ar aa X;refine eY ct ?_;intro f6 U F ar aa X;refine C1 (AU Ab rfl rfl rfl rfl rfl rfl) (cT (Ax (cS (C1 V8 (C1 Pa (cT (FQ rfl (fun M=>absurd (e.symm.trans M) Ao) (cS (C1 V8 (C1 Pa (cT ?_)))))))))));refine FQ rfl (fun M=>absurd (e.symm.trans M) Ao) (cS (C1 V8 (C1 Pa (cT (TH (Ag (C1 Pa (Ah (Ad (Ai (cS ?_)))))))))));refine C1 Mv (C1 Pn (C1 Pf (C1 (Pl (PP.blk ar)) ?_)));refine eK ?_;refine Cr Ab rfl rfl rfl rfl Af h2 ?_;rintro f7 f8 br;revert U F;refine eZ br ?_;intro f9 U F;revert aa X;refine eF br ?_;intro aa X;refine eK ?_;refine eQ rfl ((EN c k).expr _ _ _ Af hf Ao Ao) ?_;rintro _ ga ⟨gb,⟨gc,⟨⟨⟩,⟨ak,⟨al,bs⟩⟩⟩⟩⟩;have gd:=bs.size;revert U F aa X;refine eF bs ?_;intro U F aa X;refine xA [_,_,_,_] ?_;intro gf gg cu;refine eI [_,_,_,_] cu ?_;intro gh a0 cv gi gj;revert ak al U F aa X;refine eE cv ?_;intro ak al U F aa X;refine eK ?_;refine Au (xS [_,_,_,_,_,_,_,_]) rfl ?_ aFh;rintro _ gk ⟨gl,rfl,a1,gm⟩;have bt:=a1.blk;have cw:=a1.ext;have gn:=a1.pos;have go:=a1.size;revert a0 ak al U F aa X;refine eE cw ?_;intro a0 ak al U F aa X;refine C1 (xB [_,_,_,_]) (eS [_,_,_,_] aa ?_);intro gp cx cy gq;revert bt a0 ak al U F X;refine eF cy ?_;intro bt a0 ak al U F X;refine eK ?_;refine xC cx ?_
       all_goals exact AW (Lo Af Aa Af (fun b h=>by omega) Af (fun b h=>by omega)) Af X
     . rw [show CA (Aq c.ts p.2).text=56 from by rw [e];decide];refine Ae func262 ntmps262 rfl rfl ?_;refine cS (eA [_,_,_,_] ?_);intro i9 ja ab dl jb jc;revert hP X;refine eE dl ?_;intro hP X;refine eK ?_;refine eQ rfl (a4 Af) ?_;rintro _ gr ⟨jd,⟨gs,⟨⟨⟩,⟨L,⟨au,bf⟩⟩⟩⟩⟩;have gt:=bf.size;have ab:=ab.fr bf Aa;clear hP;have X:=X.fr bf Aa;refine xA [_,_,_,_] ?_;intro gu gv cz;refine eI [_,_,_,_] cz ?_;intro gw V c0 gx gy;revert L au ab X;refine eE c0 ?_;intro L au ab X;refine eK ?_;refine cC rfl (Bf _ _ _ Af) ?_;rintro _ gz ⟨⟨⟩,c1⟩;revert V L au ab X;refine eY c1 ?_;intro g0 V L au ab X;refine C1 (AU Ab rfl rfl rfl rfl rfl rfl) (cT (Ax (cS (C1 V8 (C1 Pa (cT (FQ rfl (fun M=>absurd (e.symm.trans M) Ao) (cS (C1 V8 (C1 Pa (cT ?_)))))))))));refine FQ rfl (fun M=>absurd (e.symm.trans M) Ao) (cS (C1 V8 (C1 Pa (cT (FQ rfl (fun M=>absurd (e.symm.trans M) Ao) (cS (C1 V8 (C1 Pa (cT (TH (Ag ?_)))))))))));refine C1 Pa (Ah (Ad (Ai (cS (C1 Mv (C1 Pn (C1 Pf (C1 (Pl (PP.blk au)) ?_))))))));refine eK ?_;refine Cr Ab rfl rfl rfl rfl Af h2 ?_;rintro g1 g2 bu;revert V L;refine eZ bu ?_;intro g3 V L;revert ab X;refine eF bu ?_;intro ab X;refine eK ?_;refine eQ rfl ((EN c k).expr _ _ _ Af hf Ao Ao) ?_;rintro _ g4 ⟨g5,⟨g6,⟨⟨⟩,⟨am,⟨an,bv⟩⟩⟩⟩⟩;have g7:=bv.size;revert V L ab X;refine eF bv ?_;intro V L ab X;refine xA [_,_,_,_] ?_;intro g8 g9 c2;refine eI [_,_,_,_] c2 ?_;intro ha a2 c3 hb hc;revert am an V L ab X;refine eE c3 ?_;intro am an V L ab X;refine eK ?_;refine Au (xS [_,_,_,_,_,_,_,_]) rfl ?_ aFh;rintro _ hd ⟨he,rfl,a3,hg⟩;have bw:=a3.blk;have c4:=a3.ext;have hi:=a3.pos;have hj:=a3.size;revert a2 am an V L ab X;refine eE c4 ?_;intro a2 am an V L ab X;refine C1 (xB [_,_,_,_]) (eS [_,_,_,_] ab ?_);intro hn c5 c6 ho;revert bw a2 am an V L X;refine eF c6 ?_;intro bw a2 am an V L X;refine eK ?_;refine xC c5 ?_
       all_goals exact AW (Lo Af Aa Af (fun b h=>by omega) Af (fun b h=>by omega)) Af X
def Sg {c:PC} {σ:PS} {w:wD} (f:PP c σ w) (ρ:PS):(Aq c.ts ρ).text.length<=1000000:=by
 unfold Aq;split
 . simp [Tok.zero]
 . rw [List.getD_eq_getElem?_getD];rcases kK ρ.at_ c.ts.length with h|h
   . rw [kg h];exact f.tok _ (kq h)
   . rw [kO h];simp [Tok.zero]
def Nu (c:PC) (k:Nat) (kind:Int) (σ:PS) (w:wD) (hP:PP c σ w) (hi:In c.ts σ) (hk:4*mS c.ts σ<=k) :
 Calls prog 259 #[.pointer (some ⟨c.pb,0,none⟩),.int .u8 kind] w (TreeR c w (Ft c.ts c.n k kind σ)):=by
 have X:=mb (· = c.pb) w;have hpb:=hP.pbB;have hB:=hP.B;have hlen:=hP.len;have h2:=hi.2;have hm:=Ck hi;have a3:=AB hi;have a4:=a3.trans (AO (n:=c.n) a3.wf);have a5:=a4.trans (As (n:=c.n) (t:=[40]) a4.wf Ao);unfold Ft;dsimp only;generalize hM:A2 c.ts c.n (Ap σ)=M at *;have hname : ∀ {w':wD},PP c (Ap σ) w'->Calls prog 210 #[.pointer (some ⟨c.pb,0,none⟩)] w' fun r w''=>r = .returned (str M.1)/\PP c M.2 w''/\Fr (· = c.pb) w' w'':=fun h=>hM▸FC c _ _ h
 cases hh:B1 c.ts (Az c.ts c.n M.2 [40]) [41]
 case true=>
  simp only [if_true];refine Ae func259 ntmps259 rfl rfl ?_;refine cS (eA [_,_,_,_] ?_);intro b1 w2 h5 x6 p7 z8;revert hP X;refine eE x6 ?_;intro hP X;refine cN (C1 Mv (C1 Pn (C1 Pf (C1 (Pl (PP.blk hP)) ?_))));refine eK ?_;refine Cr Ab rfl rfl rfl rfl Af h2 ?_;rintro w9 e7 a1;have e8:=a1.size;have h5:=h5.fr a1 Aa;clear hP;have X:=X.fr a1 Aa;refine eK ?_;refine cC rfl (hname Af) ?_;rintro _ e9 ⟨⟨⟩,⟨a6,a7⟩⟩;have fa:=a7.size;revert h5 X;refine eF a7 ?_;intro h5 X;refine C1 (xB [_,_,_,_]) (xA [_,_,_,_] ?_);intro fb fc cf;refine eI [_,_,_,_] cf ?_;intro fd R cg fe ff;revert a6 h5 X;refine eE cg ?_;intro a6 h5 X;refine eK ?_;refine cC rfl (B3 _ _ _ _ Af Ao) ?_;rintro _ fg ⟨⟨⟩,⟨fh,a2⟩⟩;have fi:=a2.size;have R:=R.fr a2 Aa;revert h5 X;refine eF a2 ?_;intro h5 X;refine eK ?_;refine cC rfl (Cs _ _ _ _ Af Ao Af) ?_;rintro _ fj ⟨⟨⟩,⟨a8,a9⟩⟩;have fk:=a9.size;revert R h5 X;refine eF a9 ?_;intro R h5 X;refine eK ?_;refine eS [_,_,_,_] h5 ?_;intro fl ch ci fm;revert a8 R X;refine eF ci ?_;intro a8 R X;refine eK ?_;refine xC ch ?_;exact AW Dp Af X
 simp only [lj,if_false];refine Ae func259 ntmps259 rfl rfl ?_;refine cS (eA [_,_,_,_] ?_);intro ba fn d cj fo fp;revert hP X;refine eE cj ?_;intro hP X;refine cN (C1 Mv (C1 Pn (C1 Pf (C1 (Pl (PP.blk hP)) ?_))));refine eK ?_;refine Cr Ab rfl rfl rfl rfl Af h2 ?_;rintro fq cs T;have ct:=T.size;have d:=d.fr T Aa;clear hP;have X:=X.fr T Aa;refine eK ?_;refine cC rfl (hname Af) ?_;rintro _ cu ⟨⟨⟩,⟨ae,af⟩⟩;have cv:=af.size;revert d X;refine eF af ?_;intro d X;refine C1 (xB [_,_,_,_]) (xA [_,_,_,_] ?_);intro E cw bb;refine eI [_,_,_,_] bb ?_;intro cx a bc cy cz;revert ae d X;refine eE bc ?_;intro ae d X;refine eK ?_;refine cC rfl (B3 _ _ _ _ Af Ao) ?_;rintro _ c0 ⟨⟨⟩,⟨c1,U⟩⟩;have c2:=U.size;have a:=a.fr U Aa;revert d X;refine eF U ?_;intro d X;refine eK ?_;refine cC rfl (B2 _ _ _ _ Af Ao Af) ?_;rintro _ ag ⟨⟨⟩,⟨V,ah⟩⟩;have c3:=ah.size;revert a d X;refine eF ah ?_;intro a d X;refine eK ?_;refine AE (fun wz=>Fr (· = c.pb) ag wz) 5 (.pure 0 (.pure 1 (.pure 2 (.fork 3 (.fork 4 .tail .none) .none)))) mixed BD (Ac An) ?_;intro bd ai _;have e:(fun wz=>Fr (· = c.pb) ag wz) bd:=mi ai;simp only at e;have ca:=V;have ad:=a;have ck:=d;revert V a d X;refine eY ai ?_;intro c4 V a d X;refine ⟨e,?_⟩;refine Tq rfl Pf (Tq rfl (AA Ab rfl rfl rfl (fun wz hz=>lX (lW ad hz Aa) rfl)) (Tq rfl Mv ?_));refine tC rfl rfl (Iy _ _ _ Af) ?_;rintro _ c5 ⟨c6,⟨c7,⟨⟨⟩,⟨W,⟨u,Y⟩⟩⟩⟩⟩;have c8:=Y.size;have e:=e.fr Y Aa;revert a d X;refine eF Y ?_;intro a d X;refine ⟨e,?_⟩;refine A1 rfl (xS [_,_,_,_]) rfl ?_ aFh A9;rintro _ c9 ⟨da,rfl,F,db⟩;have aj:=F.blk;have be:=F.ext;have dc:=F.pos;have dd:=F.size;revert W u e a d X;refine eE be ?_;intro W u e a d X;refine ⟨e,?_⟩;refine AI rfl ?_
 refine BV (sh:=ndShape) (B:=E+1) Ab C9 rfl rfl rfl rfl BD rfl rfl rfl OwnL.nil (l8 aj) ⟨_,_,rfl,Dp⟩ A6 Aa rfl ?_;intro g cap wA hown fA;have zA:=fA.size;have u:=u.fr fA (fun k hk=>by omega);revert a d;refine eF fA ?_;intro a d;have X:=X.fr fA (fun k hk=>kp Aa);clear fA aj W;refine C1 Pf (eV [_] [_,_,_,_] a ?_);intro cl bf cm fs;revert hown u d X;refine eF cm ?_;intro hown u d X;refine cT (Al (Ax ?_));generalize ha:DN c.ts c.n (Az c.ts c.n M.2 [40])=A at *;have hA:Le c.ts σ A.2:=by rw [<-ha];exact a5.trans (AO (n:=c.n) a5.wf)
 have ft:=BN hA;have hmt:mS c.ts σ<=c.ts.length:=by unfold mS;split<;>omega
 refine AM (ι:=Nat×List Nd×Nat×Nat×PS) (fun _=>[(0,.pointer (some ⟨c.pb,0,none⟩)),(4,.pointer (some ⟨ba,0,none⟩)),(5,.pointer (some ⟨E,0,none⟩))])
  (fun x w'=>PP c x.2.2.2.2 w'/\Blk w' E [.int .u8 kind,.int .i64 0,str M.1,.slice (some ⟨x.2.2.1,0,none⟩) x.2.1.length x.2.2.2.1]/\OwnL ndShape w' (E+1) 32 (.slice (some ⟨x.2.2.1,0,none⟩) x.2.1.length x.2.2.2.1) x.2.1 /\
   Blk w' ba [.int .u8 0,.int .i64 0,.string ⟨#[]⟩,.slice none 0 0]/\Fr (· = c.pb) w w'/\cl.heap.size<=w'.heap.size /\
   CK c.ts c.n k [A.1] A.2=CK c.ts c.n x.1 x.2.1 x.2.2.2.2/\mS c.ts x.2.2.2.2+1<=x.1/\x.2.1.length+mS c.ts x.2.2.2.2<=1000001) (fun x=>x.1) (k,[A.1],g,cap,A.2) sB
  ⟨Af,bf,hown,Af,X,kv _,rfl,by simp only;omega,by simp only [kf,ki];omega⟩ ?_
 rintro ⟨j,acc,g,cap,σ'⟩ w1 ⟨hP,hbn,hown,hbr,X,hz,he,hfj,hacc⟩;simp only at hP hbn hown he hfj hacc;clear bf hM hname;rw [he];obtain ⟨j,rfl⟩ : ∃i,j=i+1:=⟨j-1,Aa⟩
 cases hc:B1 c.ts σ' [44]
 case false=>
  rw [show CK c.ts c.n (j+1) acc σ'=(acc,σ') from by rw [CK];simp [hc]];refine eK ?_;refine cC rfl (B2 _ _ _ _ Af Ao Af) ?_;rintro _ fu ⟨⟨⟩,⟨fv,bg⟩⟩;have fw:=bg.size;clear hP;revert hbn hown hbr X;refine eF bg ?_;intro hbn hown hbr X;refine eK ?_;refine cC rfl (B3 _ _ _ _ Af Ao) ?_;rintro _ fx ⟨⟨⟩,⟨bh,bi⟩⟩;have fy:=bi.size;revert hbn hown hbr X;refine eF bi ?_;intro hbn hown hbr X;refine eK ?_;refine eS [_,_,_,_] hbr ?_;intro fz bj bk de;clear hbr;revert bh hbn hown X;refine eF bk ?_;intro bh hbn hown X;refine eK ?_;refine xC bj ?_;exact AW (KC (hown.sits (fun b h=>by omega))) Af X
 have hin:=AP hP.at_ hc Ao;have hmn:=Ck hin;have hnl:=Sg hP (Ap σ');by_cases h8:acc.length=8
 . cases hnm:AS (Aq c.ts (Ap σ')).text
   . rw [show CK c.ts c.n (j+1) acc σ'=CK c.ts c.n j (acc++[(DN c.ts c.n (Ap σ')).1]) (DN c.ts c.n (Ap σ')).2 from by rw [CK];simp [hc,h8,hnm]];have hml:=BN (AO (n:=c.n) (show (Ap σ').at_<=c.ts.length from hin.2));have ak:mS c.ts (DN c.ts c.n (Ap σ')).2<=mS c.ts (Ap σ'):=hml;refine eK ?_;refine cC rfl (Cs _ _ _ _ Af Ao Af) ?_;rintro _ f0 ⟨⟨⟩,⟨C,bl⟩⟩;have f1:=bl.size;clear hP;revert hbn hown hbr X;refine eF bl ?_;intro hbn hown hbr X;refine eK ?_;refine cC rfl (Bf _ _ _ Af) ?_;rintro _ f2 ⟨⟨⟩,cn⟩;revert C hbn hown hbr X;refine eY cn ?_;intro f3 C hbn hown hbr X;refine xA [_,_,_] ?_;intro f4 f5 bm;refine eI [_,_,_] bm ?_;intro df p bn dg dh;revert C hbn hown hbr X;refine eE bn ?_;intro C hbn hown hbr X;refine eK ?_;refine cC rfl (Ip _ _ Aa) ?_;rintro _ al ⟨⟨⟩,bo⟩;revert p C hbn hown hbr X;refine eY bo ?_;intro di p C hbn hown hbr X;refine C1 V0 (cT (F3 rfl Af ?_));refine eK ?_;refine AE (fun wz=>Fr (· = c.pb) al wz) 5 (.pure 0 (.pure 1 (.pure 2 (.fork 3 (.fork 4 .tail .none) .none)))) mixed BD (Ak (Ac (Ak (Ac An)))) ?_;intro bp am _;have f:(fun wz=>Fr (· = c.pb) al wz) bp:=mi am;simp only at f;have cb:=p;have co:=C;have q:=hbn;have G:=hown;have Z:=hbr;revert p C hbn hown hbr X;refine eY am ?_;intro dj p C hbn hown hbr X;refine ⟨f,?_⟩;refine Tq rfl Pf (Tq rfl (AA Ab rfl rfl rfl (fun wz hz=>lX (lW q hz Aa) rfl)) (Tq rfl Mv ?_))
     refine tC rfl rfl (Iy _ _ _ Af) ?_;rintro _ dk ⟨dl,⟨dm,⟨⟨⟩,⟨an,⟨v,ao⟩⟩⟩⟩⟩;revert f p;refine eZ ao ?_;intro dn f p;revert hbn hown hbr X;refine eF ao ?_;intro hbn hown hbr X;refine ⟨f,?_⟩;refine A1 rfl (xS [_,_,_,_]) rfl ?_ aFh A9;rintro _ dp ⟨dq,rfl,I,dr⟩;have ds:=I.blk;have bq:=I.ext;have dt:=I.pos;have du:=I.size;revert an v f p hbn hown hbr X;refine eE bq ?_;intro an v f p hbn hown hbr X;refine ⟨f,?_⟩;refine AI rfl (BV (sh:=ndShape) Ab C9 rfl rfl rfl rfl BD rfl rfl rfl hown (l8 Af) ⟨_,_,rfl,Dp⟩ Aa Aa rfl ?_);rintro dv br dw ap J;have dx:=J.size;have v:=v.fr J Aa;have hbn:=hbn.fr J Aa;clear hown;revert hbr X;refine eF J ?_;intro hbr X;refine C1 Pf (eV [_] [_,_,_,_] hbn ?_);intro dy dz bs d0;clear hbn;revert ap v hbr X;refine eF bs ?_;intro ap v hbr X;refine Ah (Ad ?_);refine Ay (j,acc++[(DN c.ts c.n (Ap σ')).1],_,_,(DN c.ts c.n (Ap σ')).2) sB ⟨Af,Af,Af,Af,X,Aa,rfl,by simp only;omega,by simp only [j9,kf,ki];omega⟩ A6
   . rw [show CK c.ts c.n (j+1) acc σ'=CK c.ts c.n j (acc++[(DN c.ts c.n (BE (Ap σ') (Aq c.ts (Ap σ')).pos 5)).1]) (DN c.ts c.n (BE (Ap σ') (Aq c.ts (Ap σ')).pos 5)).2 from by rw [CK];simp [hc,h8,hnm]];have hfl:=B6 (show (Ap σ').at_<=c.ts.length from hin.2) (Aq c.ts (Ap σ')).pos 5;have hml:=BN (hfl.trans (AO (n:=c.n) hfl.wf));have ak:mS c.ts (DN c.ts c.n (BE (Ap σ') (Aq c.ts (Ap σ')).pos 5)).2<=mS c.ts (Ap σ'):=hml;refine eK ?_;refine cC rfl (Cs _ _ _ _ Af Ao Af) ?_;rintro _ f6 ⟨⟨⟩,⟨S,bt⟩⟩;have f7:=bt.size;clear hP;revert hbn hown hbr X;refine eF bt ?_;intro hbn hown hbr X;refine eK ?_;refine cC rfl (Bf _ _ _ Af) ?_;rintro _ f8 ⟨⟨⟩,cp⟩;revert S hbn hown hbr X;refine eY cp ?_;intro f9 S hbn hown hbr X;refine xA [_,_,_] ?_;intro ga gb bu;refine eI [_,_,_] bu ?_;intro d1 l bv d2 d3;revert S hbn hown hbr X;refine eE bv ?_;intro S hbn hown hbr X;refine eK ?_;refine cC rfl (Ip _ _ Aa) ?_;rintro _ d4 ⟨⟨⟩,bw⟩;revert l S hbn hown hbr X;refine eY bw ?_;intro d5 l S hbn hown hbr X;refine C1 V0 (cT (FR rfl Af ?_));refine eK ?_;refine cC rfl (GA _ _ _ _ _ Af) ?_;rintro _ aq ⟨⟨⟩,⟨aa,ab⟩⟩;have d6:=ab.size;have l:=l.fr ab Aa;revert hbn hown hbr X;refine eF ab ?_;intro hbn hown hbr X;refine cT (AE (fun wz=>Fr (· = c.pb) aq wz) 5 (.pure 0 (.pure 1 (.pure 2 (.fork 3 (.fork 4 .tail .none) .none)))) mixed BD (Ak (Ac (Ak (Ac An)))) ?_);intro bx ar _;have m:(fun wz=>Fr (· = c.pb) aq wz) bx:=mi ar;simp only at m;have cc:=aa
     have cd:=l;have q:=hbn;have G:=hown;have Z:=hbr;revert aa l hbn hown hbr X;refine eY ar ?_;intro d7 aa l hbn hown hbr X;refine ⟨m,?_⟩;refine Tq rfl Pf (Tq rfl (AA Ab rfl rfl rfl (fun wz hz=>lX (lW q hz Aa) rfl)) (Tq rfl Mv ?_));refine tC rfl rfl (Iy _ _ _ Af) ?_;rintro _ d8 ⟨d9,⟨ea,⟨⟨⟩,⟨au,⟨y,ac⟩⟩⟩⟩⟩;have eb:=ac.size;have m:=m.fr ac Aa;revert l hbn hown hbr X;refine eF ac ?_;intro l hbn hown hbr X;refine ⟨m,?_⟩;refine A1 rfl (xS [_,_,_,_]) rfl ?_ aFh A9;rintro _ ec ⟨ed,rfl,L,ee⟩;have ef:=L.blk;have bz:=L.ext;have eg:=L.pos;have eh:=L.size;revert au y m l hbn hown hbr X;refine eE bz ?_;intro au y m l hbn hown hbr X;refine ⟨m,?_⟩;refine AI rfl (BV (sh:=ndShape) Ab C9 rfl rfl rfl rfl BD rfl rfl rfl hown (l8 Af) ⟨_,_,rfl,Dp⟩ Aa Aa rfl ?_);rintro ei b0 ej av N;have ek:=N.size;have y:=y.fr N Aa;have hbn:=hbn.fr N Aa;clear hown;revert hbr X;refine eF N ?_;intro hbr X;refine C1 Pf (eV [_] [_,_,_,_] hbn ?_);intro el em b2 en;clear hbn;revert av y hbr X;refine eF b2 ?_;intro av y hbr X;refine Ah (Ad ?_);refine Ay (j,acc++[(DN c.ts c.n (BE (Ap σ') (Aq c.ts (Ap σ')).pos 5)).1],_,_,(DN c.ts c.n (BE (Ap σ') (Aq c.ts (Ap σ')).pos 5)).2) sB ⟨Af,Af,Af,Af,X,Aa,rfl,by simp only;omega,by simp only [j9,kf,ki];omega⟩ A6
 . rw [show CK c.ts c.n (j+1) acc σ'=CK c.ts c.n j (acc++[(DN c.ts c.n (Ap σ')).1]) (DN c.ts c.n (Ap σ')).2 from by rw [CK];simp [hc,h8]];have hml:=BN (AO (n:=c.n) (show (Ap σ').at_<=c.ts.length from hin.2));have ak:mS c.ts (DN c.ts c.n (Ap σ')).2<=mS c.ts (Ap σ'):=hml;refine eK ?_;refine cC rfl (Cs _ _ _ _ Af Ao Af) ?_;rintro _ gc ⟨⟨⟩,⟨D,b3⟩⟩;have gd:=b3.size;clear hP;revert hbn hown hbr X;refine eF b3 ?_;intro hbn hown hbr X;refine eK ?_;refine cC rfl (Bf _ _ _ Af) ?_;rintro _ ge ⟨⟨⟩,cq⟩;revert D hbn hown hbr X;refine eY cq ?_;intro gf D hbn hown hbr X;refine xA [_,_,_] ?_;intro gg gh b4;refine eI [_,_,_] b4 ?_;intro aw s b5 eo ep;revert D hbn hown hbr X;refine eE b5 ?_;intro D hbn hown hbr X;refine eK ?_;refine AE (fun wz=>Fr (· = c.pb) aw wz) 5 (.pure 0 (.pure 1 (.pure 2 (.fork 3 (.fork 4 .tail .none) .none)))) mixed BD (Ak (Ac (Ak (Ac An)))) ?_;intro b6 ax _;have o:(fun wz=>Fr (· = c.pb) aw wz) b6:=mi ax;simp only at o;have ce:=s;have cr:=D;have q:=hbn;have G:=hown;have Z:=hbr;revert s D hbn hown hbr X;refine eY ax ?_;intro eq s D hbn hown hbr X;refine ⟨o,?_⟩;refine Tq rfl Pf (Tq rfl (AA Ab rfl rfl rfl (fun wz hz=>lX (lW q hz Aa) rfl)) (Tq rfl Mv ?_));refine tC rfl rfl (Iy _ _ _ Af) ?_;rintro _ er ⟨es,⟨et,⟨⟨⟩,⟨ay,⟨z,az⟩⟩⟩⟩⟩
   revert o s;refine eZ az ?_;intro eu o s;revert hbn hown hbr X;refine eF az ?_;intro hbn hown hbr X;refine ⟨o,?_⟩;refine A1 rfl (xS [_,_,_,_]) rfl ?_ aFh A9;rintro _ ev ⟨ew,rfl,O,ex⟩;have ey:=O.blk;have b7:=O.ext;have ez:=O.pos;have e0:=O.size;revert ay z o s hbn hown hbr X;refine eE b7 ?_;intro ay z o s hbn hown hbr X;refine ⟨o,?_⟩;refine AI rfl (BV (sh:=ndShape) Ab C9 rfl rfl rfl rfl BD rfl rfl rfl hown (l8 Af) ⟨_,_,rfl,Dp⟩ Aa Aa rfl ?_);rintro e1 b8 e2 a0 Q;have e3:=Q.size;have z:=z.fr Q Aa;have hbn:=hbn.fr Q Aa;clear hown;revert hbr X;refine eF Q ?_;intro hbr X;refine C1 Pf (eV [_] [_,_,_,_] hbn ?_);intro e4 e5 b9 e6;clear hbn;revert a0 z hbr X;refine eF b9 ?_;intro a0 z hbr X;refine Ah (Ad ?_);refine Ay (j,acc++[(DN c.ts c.n (Ap σ')).1],_,_,(DN c.ts c.n (Ap σ')).2) sB ⟨Af,Af,Af,Af,X,Aa,rfl,by simp only;omega,by simp only [j9,kf,ki];omega⟩ A6
structure StmtsC (c:PC) (k:Nat):Prop where
 stmt : ∀(σ:PS) (w:wD),PP c σ w->4*mS c.ts σ+6<=k->Calls prog 246 #[.pointer (some ⟨c.pb,0,none⟩)] w (TreeR c w (Bm c.ts c.n k σ))
 branches : ∀(kind:Int) (mid last:lB) (σ:PS) (w:wD),PP c σ w->In c.ts σ->mid≠[]->last≠[]->4*mS c.ts σ+5<=k->Calls prog 260 #[.pointer (some ⟨c.pb,0,none⟩),.int .u8 kind,str mid,str last] w (TreeR c w (BM c.ts c.n k kind mid last σ))
 local_ : ∀(σ:PS) (w:wD),PP c σ w->In c.ts σ->4*mS c.ts σ+5<=k->Calls prog 261 #[.pointer (some ⟨c.pb,0,none⟩)] w (TreeR c w (Dy c.ts c.n k σ))
 block : ∀(σ:PS) (w:wD),PP c σ w->4*mS c.ts σ+8<=k->Calls prog 213 #[.pointer (some ⟨c.pb,0,none⟩)] w (TreeR c w (Co c.ts c.n k σ))
def T7 (c:PC) (k:Nat) (IH : ∀j,j<=k->StmtsC c j) (kind:Int) (ab Y:lB) (σ:PS) (w:wD) (hP:PP c σ w) (hi:In c.ts σ) (af:ab≠[]) (ac:Y≠[]) (hk:4*mS c.ts σ+5<=k+1) :
 Calls prog 260 #[.pointer (some ⟨c.pb,0,none⟩),.int .u8 kind,str ab,str Y] w (TreeR c w (BM c.ts c.n (k+1) kind ab Y σ)):=by
 have X:=mb (· = c.pb) w;have a3:=hP.pbB;have hB:=hP.B;have a2:=hP.len;have h2:=hi.2;have hm:=Ck hi;rw [BM]
 (try dsimp only)
 have l1:=AB hi;have l2:=DZ (n:=c.n) (k:=k) (lv:=1) l1.wf;have l3:=(Ei (ts:=c.ts) (n:=c.n) k).2.2.2.1 _ l2.wf;have l4:=As (n:=c.n) l3.wf af;have l5:=(Ei (ts:=c.ts) (n:=c.n) k).2.2.2.1 _ l4.wf;have l6:=As (n:=c.n) l5.wf ac;have m2:=BN l2;have m3:=BN l3;have m4:=BN l4;have m5:=BN l5;have m6:=BN l6;refine Ae func260 ntmps260 rfl rfl ?_;refine cS (eA [_,_,_,_] ?_);intro b1 w2 M x6 p7 z8;revert hP X;refine eE x6 ?_;intro hP X;refine cN (C1 Mv (C1 Pn (C1 Pf (C1 (Pl (PP.blk hP)) ?_))));refine eK ?_;refine Cr Ab rfl rfl rfl rfl Af h2 ?_;rintro w9 a4 ad;have a5:=ad.size;have M:=M.fr ad Aa;clear hP;have X:=X.fr ad Aa;refine eK ?_;refine eQ rfl ((EN c k).expr _ _ _ Af Aa Ao Ao) ?_;rintro _ a6 ⟨a7,⟨a8,⟨⟨⟩,⟨f,⟨ag,ah⟩⟩⟩⟩⟩;have a9:=ah.size;revert M X;refine eF ah ?_;intro M X;refine xA [_,_,_,_] ?_;intro ba bb ap;refine eI [_,_,_,_] ap ?_;intro bc E aq bd be;revert f ag M X;refine eE aq ?_;intro f ag M X;refine eK ?_;refine eQ rfl ((IH k (kv _)).block _ _ Af Aa) ?_;rintro _ bf ⟨bg,⟨bh,⟨⟨⟩,⟨F,⟨ai,aj⟩⟩⟩⟩⟩;revert E f;refine eZ aj ?_;intro bi E f;revert M X;refine eF aj ?_;intro M X;refine xA [_,_,_,_] ?_;intro bj bk ar;refine eI [_,_,_,_] ar ?_;intro bm L au bn bo;revert F ai E f M X;refine eE au ?_;intro F ai E f M X;refine eK ?_;refine cC rfl (B3 _ _ _ _ Af Af) ?_;rintro _ bp ⟨⟨⟩,⟨bq,ae⟩⟩;have z46:=ae.size;revert L F;refine eF ae ?_
 intro L F;revert E f M X;refine eF ae ?_;intro E f M X;refine eK ?_;refine eQ rfl ((IH k (kv _)).block _ _ Af Aa) ?_;rintro _ br ⟨bs,⟨bt,⟨⟨⟩,⟨N,⟨ak,al⟩⟩⟩⟩⟩;have z53:=al.size;revert L F E f M X;refine eF al ?_;intro L F E f M X;refine xA [_,_,_,_] ?_;intro bu bv av;refine eI [_,_,_,_] av ?_;intro bw O aw bx bz;revert N ak L F E f M X;refine eE aw ?_;intro N ak L F E f M X;refine eK ?_;refine cC rfl (B3 _ _ _ _ Af Af) ?_;rintro _ O5 ⟨⟨⟩,⟨b0,am⟩⟩;revert O N;refine eZ am ?_;intro b2 O N;revert L F E f M X;refine eF am ?_;intro L F E f M X;refine eK ?_;refine eQ rfl ((EN c k).expr _ _ _ Af Aa Ao Ao) ?_;rintro _ b3 ⟨b4,⟨b5,⟨⟨⟩,⟨U,⟨V,an⟩⟩⟩⟩⟩;have z72:=an.size;revert O N L F E f M X;refine eF an ?_;intro O N L F E f M X;refine xA [_,_,_,_] ?_;intro b6 b7 ax;refine eI [_,_,_,_] ax ?_;intro b8 Z ay b9 z80;revert U V O N L F E f M X;refine eE ay ?_;intro U V O N L F E f M X;refine eK ?_;refine Au (xS [_,_,_,_,_,_,_,_,_,_,_,_,_,_,_,_]) rfl ?_ aFh;rintro _ ca ⟨cb,rfl,aa,cc⟩;have ao:=aa.blk;have az:=aa.ext;have cd:=aa.pos;have ce:=aa.size;revert Z U V O N L F E f M X;refine eE az ?_;intro Z U V O N L F E f M X;refine C1 (xB [_,_,_,_]) (eS [_,_,_,_] M ?_);intro cf a0 a1 cg;revert ao Z U V O N L F E f X;refine eF a1 ?_;intro ao Z U V O N L F E f X;refine eK ?_;refine xC a0 ?_
 exact AW (fK Af Aa Af (fun b h=>by omega) Af (fun b h=>by omega) Af (fun b h=>by omega) Af (fun b h=>by omega)) Af X
def aY (c:PC) (k:Nat) (IH : ∀j,j<=k->StmtsC c j) (σ:PS) (w:wD) (hP:PP c σ w) (hi:In c.ts σ) (hk:4*mS c.ts σ+5<=k+1) :
 Calls prog 261 #[.pointer (some ⟨c.pb,0,none⟩)] w (TreeR c w (Dy c.ts c.n (k+1) σ)):=by
 have X:=mb (· = c.pb) w;have hpb:=hP.pbB;have hB:=hP.B;have hlen:=hP.len;have h2:=hi.2;have hm:=Ck hi;have l1:=AB hi;rw [Dy]
 (try dsimp only)
 cases hs:B1 c.ts (Ap σ) [115,116,97,99,107]
 case true=>
  simp only [if_true];have l2:=AB (AP l1.wf hs Ao);have l3:=AO (n:=c.n) l2.wf;have m2:=BN l2;have m3:=BN l3;refine Ae func261 ntmps261 rfl rfl ?_;refine cS (eA [_,_,_,_] ?_);intro b1 w2 h5 x6 p7 z8;revert hP X;refine eE x6 ?_;intro hP X;refine cN (C1 Mv (C1 Pn (C1 Pf (C1 (Pl (PP.blk hP)) ?_))));refine eK ?_;refine Cr Ab rfl rfl rfl rfl Af h2 ?_;rintro w9 bq G;have br:=G.size;have h5:=h5.fr G Aa;clear hP;have X:=X.fr G Aa;refine eK ?_;refine cC rfl (Cs _ _ _ _ Af Ao Af) ?_;rintro _ bs ⟨⟨⟩,⟨bt,I⟩⟩;have bu:=I.size;revert h5 X;refine eF I ?_;intro h5 X;refine eK ?_;refine cC rfl (FC _ _ _ Af) ?_;rintro _ bv ⟨⟨⟩,⟨bw,J⟩⟩;have bx:=J.size;revert h5 X;refine eF J ?_;intro h5 X;refine eK ?_;refine eQ rfl ((IH k (kv _)).block _ _ Af Aa) ?_;rintro _ bz ⟨b0,⟨b2,⟨⟨⟩,⟨q,⟨r,L⟩⟩⟩⟩⟩;have b3:=L.size;revert h5 X;refine eF L ?_;intro h5 X;refine Au (xS [_,_,_,_]) rfl ?_ aFh;rintro _ b4 ⟨b5,rfl,s,b6⟩;have M:=s.blk;have Y:=s.ext;have b7:=s.pos;have b8:=s.size;revert q r h5 X;refine eE Y ?_;intro q r h5 X;refine C1 (xB [_,_,_,_]) (eS [_,_,_,_] h5 ?_);intro b9 Z aa ca;revert M q r X;refine eF aa ?_;intro M q r X;refine eK ?_;refine xC Z ?_;exact AW (Ln Af Aa Af (fun b h=>by omega)) Af X
 simp only [lj,if_false];have l2:=AO (n:=c.n) l1.wf;have l3:=As (n:=c.n) (t:=[61]) l2.wf Ao;have l4:=DZ (n:=c.n) (k:=k) (lv:=1) l3.wf;have l5:=(Ei (ts:=c.ts) (n:=c.n) k).2.2.2.1 _ l4.wf;have l6:=As (n:=c.n) (t:=[100,101,108,111,99,97,108]) l5.wf Ao;have m2:=BN l2;have m3:=BN l3;have m4:=BN l4;have m5:=BN l5;have m6:=BN l6;refine Ae func261 ntmps261 rfl rfl ?_;refine cS (eA [_,_,_,_] ?_);intro cb cc a ab cd ce;revert hP X;refine eE ab ?_;intro hP X;refine cN (C1 Mv (C1 Pn (C1 Pf (C1 (Pl (PP.blk hP)) ?_))));refine eK ?_;refine Cr Ab rfl rfl rfl rfl Af h2 ?_;rintro cf ac p;have ad:=p.size;have a:=a.fr p Aa;clear hP;have X:=X.fr p Aa;refine eK ?_;refine cC rfl (B2 _ _ _ _ Af Ao Af) ?_;rintro _ ae ⟨⟨⟩,⟨af,u⟩⟩;have ag:=u.size;revert a X;refine eF u ?_;intro a X;refine eK ?_;refine cC rfl (FC _ _ _ Af) ?_;rintro _ ah ⟨⟨⟩,⟨ai,v⟩⟩;have aj:=v.size;revert a X;refine eF v ?_;intro a X;refine eK ?_;refine cC rfl (B3 _ _ _ _ Af Ao) ?_;rintro _ ak ⟨⟨⟩,⟨al,x⟩⟩;have am:=x.size;revert a X;refine eF x ?_;intro a X;refine eK ?_;refine eQ rfl ((EN c k).expr _ _ _ Af Aa Ao Ao) ?_;rintro _ an ⟨ao,⟨ap,⟨⟨⟩,⟨d,⟨y,z⟩⟩⟩⟩⟩;have aq:=z.size;revert a X;refine eF z ?_;intro a X;refine xA [_,_,_,_] ?_;intro ar au N;refine eI [_,_,_,_] N ?_;intro av e O aw ax;revert d y a X;refine eE O ?_;intro d y a X
 refine eK ?_;refine eQ rfl ((IH k (kv _)).block _ _ Af Aa) ?_;rintro _ ay ⟨az,⟨a0,⟨⟨⟩,⟨f,⟨A,C⟩⟩⟩⟩⟩;revert e d;refine eZ C ?_;intro a1 e d;revert a X;refine eF C ?_;intro a X;refine xA [_,_,_,_] ?_;intro a2 a3 Q;refine eI [_,_,_,_] Q ?_;intro a4 g R a5 a6;revert f A e d a X;refine eE R ?_;intro f A e d a X;refine eK ?_;refine cC rfl (B3 _ _ _ _ Af Ao) ?_;rintro _ a7 ⟨⟨⟩,⟨a8,D⟩⟩;revert g f;refine eZ D ?_;intro a9 g f;revert e d a X;refine eF D ?_;intro e d a X;refine eK ?_;refine eQ rfl ((EN c k).expr _ _ _ Af Aa Ao Ao) ?_;rintro _ ba ⟨bb,⟨bc,⟨⟨⟩,⟨i,⟨l,E⟩⟩⟩⟩⟩;have bd:=E.size;revert g f e d a X;refine eF E ?_;intro g f e d a X;refine xA [_,_,_,_] ?_;intro be bf S;refine eI [_,_,_,_] S ?_;intro bg m T bh bi;revert i l g f e d a X;refine eE T ?_;intro i l g f e d a X;refine eK ?_;refine Au (xS [_,_,_,_,_,_,_,_,_,_,_,_]) rfl ?_ aFh;rintro _ bj ⟨bk,rfl,o,bl⟩;have F:=o.blk;have U:=o.ext;have bm:=o.pos;have bn:=o.size;revert m i l g f e d a X;refine eE U ?_;intro m i l g f e d a X;refine C1 (xB [_,_,_,_]) (eS [_,_,_,_] a ?_);intro bo V W bp;revert F m i l g f e d X;refine eF W ?_;intro F m i l g f e d X;refine eK ?_;refine xC V ?_
 exact AW (fJ Af Aa Af (fun b h=>by omega) Af (fun b h=>by omega) Af (fun b h=>by omega)) Af X
def fW (c:PC) (k:Nat) (IH : ∀j,j<=k->StmtsC c j) (σ:PS) (w:wD) (f:PP c σ w) (hk:4*mS c.ts σ+6<=k+1) :
 Calls prog 246 #[.pointer (some ⟨c.pb,0,none⟩)] w (TreeR c w (Bm c.ts c.n (k+1) σ)):=by
 have X:=mb (· = c.pb) w;have fq:=f.pbB;have hB:=f.B;have E : ∀t:lB,(Aq c.ts σ).text=t->t≠[]->In c.ts σ:=fun t h ht=>Cc f.at_ (kj (by rw [h];exact ht))
 have F:=kh E;clear E;rw [Bm];by_cases e0:(Aq c.ts σ).text=[112,117,115,104]
 . rw [AH e0];have E:=F.out _ e0 Ao;refine Ae func246 ntmps246 rfl rfl ?_;refine cS (eA [_,_,_,_] ?_);intro b1 w2 h5 x6 p7 z8;revert f X;refine eE x6 ?_;intro f X;refine eK ?_;refine cC rfl (Bf _ _ _ Af) ?_;rintro _ fs ⟨⟨⟩,x9⟩;revert h5 f X;refine eY x9 ?_;intro ft h5 f X;refine C1 (AU Ab rfl rfl rfl rfl rfl rfl) ?_;refine eK ?_;refine eQ rfl (Mb c k 44 _ _ Af E Aa) ?_;rintro _ fu ⟨fv,⟨fw,⟨⟨⟩,⟨be,⟨bf,bc⟩⟩⟩⟩⟩;have fx:=bc.size;have h5:=h5.fr bc Aa;clear f;have X:=X.fr bc Aa;refine eS [_,_,_,_] h5 ?_;intro fy b5 b6 z22;revert be bf X;refine eF b6 ?_;intro be bf X;refine eK ?_;refine xC b5 ?_;exact AW (lY Af (fun b h=>by omega)) Af X
 rw [At e0];by_cases e1:(Aq c.ts σ).text=[112,111,112]
 . rw [AH e1];have E:=F.out _ e1 Ao;refine Ae func246 ntmps246 rfl rfl ?_;refine cS (eA [_,_,_,_] ?_);intro fz f0 L b7 f1 f2;revert f X;refine eE b7 ?_;intro f X;refine eK ?_;refine cC rfl (Bf _ _ _ Af) ?_;rintro _ cu ⟨⟨⟩,b8⟩;revert L f X;refine eY b8 ?_;intro cv L f X;refine C1 (AU Ab rfl rfl rfl rfl rfl rfl) ?_;refine eK ?_;refine eQ rfl (Mb c k 45 _ _ Af E Aa) ?_;rintro _ cw ⟨cx,⟨cy,⟨⟨⟩,⟨ao,⟨ap,M⟩⟩⟩⟩⟩;have cz:=M.size;have L:=L.fr M Aa;clear f;have X:=X.fr M Aa;refine eS [_,_,_,_] L ?_;intro c0 bg bh c1;revert ao ap X;refine eF bh ?_;intro ao ap X;refine eK ?_;refine xC bg ?_;exact AW (lY Af (fun b h=>by omega)) Af X
 rw [At e1];by_cases e2:(Aq c.ts σ).text=[114,101,97,100]
 . rw [AH e2];have E:=F.out _ e2 Ao;refine Ae func246 ntmps246 rfl rfl ?_;refine cS (eA [_,_,_,_] ?_);intro f3 f4 N b9 f5 f6;revert f X;refine eE b9 ?_;intro f X;refine eK ?_;refine cC rfl (Bf _ _ _ Af) ?_;rintro _ c2 ⟨⟨⟩,ca⟩;revert N f X;refine eY ca ?_;intro c3 N f X;refine C1 (AU Ab rfl rfl rfl rfl rfl rfl) ?_;refine eK ?_;refine eQ rfl (Iz c k 46 _ _ Af E Aa) ?_;rintro _ c4 ⟨c5,⟨c6,⟨⟨⟩,⟨aq,⟨ar,O⟩⟩⟩⟩⟩;have c7:=O.size;have N:=N.fr O Aa;clear f;have X:=X.fr O Aa;refine eS [_,_,_,_] N ?_;intro c8 bi bj c9;revert aq ar X;refine eF bj ?_;intro aq ar X;refine eK ?_;refine xC bi ?_;exact AW (lY Af (fun b h=>by omega)) Af X
 rw [At e2];by_cases e3:(Aq c.ts σ).text=[117,110,114,101,97,100]
 . rw [AH e3];have E:=F.out _ e3 Ao;refine Ae func246 ntmps246 rfl rfl ?_;refine cS (eA [_,_,_,_] ?_);intro f7 f8 U cb f9 ga;revert f X;refine eE cb ?_;intro f X;refine eK ?_;refine cC rfl (Bf _ _ _ Af) ?_;rintro _ da ⟨⟨⟩,cc⟩;revert U f X;refine eY cc ?_;intro db U f X;refine C1 (AU Ab rfl rfl rfl rfl rfl rfl) ?_;refine eK ?_;refine eQ rfl (Iz c k 47 _ _ Af E Aa) ?_;rintro _ dc ⟨dd,⟨de,⟨⟨⟩,⟨au,⟨av,V⟩⟩⟩⟩⟩;have df:=V.size;have U:=U.fr V Aa;clear f;have X:=X.fr V Aa;refine eS [_,_,_,_] U ?_;intro dg bk bm dh;revert au av X;refine eF bm ?_;intro au av X;refine eK ?_;refine xC bk ?_;exact AW (lY Af (fun b h=>by omega)) Af X
 rw [At e3];by_cases e4:(Aq c.ts σ).text=[119,114,105,116,101]
 . rw [AH e4];have E:=F.out _ e4 Ao;refine Ae func246 ntmps246 rfl rfl ?_;refine cS (eA [_,_,_,_] ?_);intro gb gc Y cd gd gf;revert f X;refine eE cd ?_;intro f X;refine eK ?_;refine cC rfl (Bf _ _ _ Af) ?_;rintro _ di ⟨⟨⟩,ce⟩;revert Y f X;refine eY ce ?_;intro dk Y f X;refine C1 (AU Ab rfl rfl rfl rfl rfl rfl) ?_;refine eK ?_;refine eQ rfl (Iz c k 48 _ _ Af E Aa) ?_;rintro _ dl ⟨dm,⟨dn,⟨⟨⟩,⟨aw,⟨ax,Z⟩⟩⟩⟩⟩;have dp:=Z.size;have Y:=Y.fr Z Aa;clear f;have X:=X.fr Z Aa;refine eS [_,_,_,_] Y ?_;intro dq bn bo dr;revert aw ax X;refine eF bo ?_;intro aw ax X;refine eK ?_;refine xC bn ?_;exact AW (lY Af (fun b h=>by omega)) Af X
 rw [At e4];by_cases e5:(Aq c.ts σ).text=[117,110,119,114,105,116,101]
 . rw [AH e5];have E:=F.out _ e5 Ao;refine Ae func246 ntmps246 rfl rfl ?_;refine cS (eA [_,_,_,_] ?_);intro gg gh aa cf gi gj;revert f X;refine eE cf ?_;intro f X;refine eK ?_;refine cC rfl (Bf _ _ _ Af) ?_;rintro _ ds ⟨⟨⟩,cg⟩;revert aa f X;refine eY cg ?_;intro dt aa f X;refine C1 (AU Ab rfl rfl rfl rfl rfl rfl) ?_;refine eK ?_;refine eQ rfl (Iz c k 49 _ _ Af E Aa) ?_;rintro _ du ⟨dv,⟨dw,⟨⟨⟩,⟨ay,⟨az,ab⟩⟩⟩⟩⟩;have dx:=ab.size;have aa:=aa.fr ab Aa;clear f;have X:=X.fr ab Aa;refine eS [_,_,_,_] aa ?_;intro dy bp bq dz;revert ay az X;refine eF bq ?_;intro ay az X;refine eK ?_;refine xC bp ?_;exact AW (lY Af (fun b h=>by omega)) Af X
 rw [At e5];by_cases e6:(Aq c.ts σ).text=[99,97,108,108]
 . rw [AH e6];have E:=F.out _ e6 Ao;refine Ae func246 ntmps246 rfl rfl ?_;refine cS (eA [_,_,_,_] ?_);intro gk gl ac ch gm gn;revert f X;refine eE ch ?_;intro f X;refine eK ?_;refine cC rfl (Bf _ _ _ Af) ?_;rintro _ d0 ⟨⟨⟩,ci⟩;revert ac f X;refine eY ci ?_;intro d1 ac f X;refine C1 (AU Ab rfl rfl rfl rfl rfl rfl) ?_;refine eK ?_;refine eQ rfl (Nu c k 50 _ _ Af E Aa) ?_;rintro _ d2 ⟨d3,⟨d4,⟨⟨⟩,⟨a0,⟨a1,ad⟩⟩⟩⟩⟩;have d5:=ad.size;have ac:=ac.fr ad Aa;clear f;have X:=X.fr ad Aa;refine eS [_,_,_,_] ac ?_;intro d6 br bs d7;revert a0 a1 X;refine eF bs ?_;intro a0 a1 X;refine eK ?_;refine xC br ?_;exact AW (lY Af (fun b h=>by omega)) Af X
 rw [At e6];by_cases e7:(Aq c.ts σ).text=[117,110,99,97,108,108]
 . rw [AH e7];have E:=F.out _ e7 Ao;refine Ae func246 ntmps246 rfl rfl ?_;refine cS (eA [_,_,_,_] ?_);intro go gp ae cj gq gr;revert f X;refine eE cj ?_;intro f X;refine eK ?_;refine cC rfl (Bf _ _ _ Af) ?_;rintro _ d8 ⟨⟨⟩,ck⟩;revert ae f X;refine eY ck ?_;intro d9 ae f X;refine C1 (AU Ab rfl rfl rfl rfl rfl rfl) ?_;refine eK ?_;refine eQ rfl (Nu c k 51 _ _ Af E Aa) ?_;rintro _ ea ⟨eb,⟨ec,⟨⟨⟩,⟨a2,⟨a3,af⟩⟩⟩⟩⟩;have ed:=af.size;have ae:=ae.fr af Aa;clear f;have X:=X.fr af Aa;refine eS [_,_,_,_] ae ?_;intro ee bt bu ef;revert a2 a3 X;refine eF bu ?_;intro a2 a3 X;refine eK ?_;refine xC bt ?_;exact AW (lY Af (fun b h=>by omega)) Af X
 rw [At e7];by_cases e8:(Aq c.ts σ).text=[105,102]
 . rw [AH e8];have E:=F.out _ e8 Ao;refine Ae func246 ntmps246 rfl rfl ?_;refine cS (eA [_,_,_,_] ?_);intro gs gt ag cl gu gv;revert f X;refine eE cl ?_;intro f X;refine eK ?_;refine cC rfl (Bf _ _ _ Af) ?_;rintro _ eg ⟨⟨⟩,cm⟩;revert ag f X;refine eY cm ?_;intro eh ag f X;refine C1 (AU Ab rfl rfl rfl rfl rfl rfl) ?_;refine eK ?_;refine eQ rfl ((IH k (kv _)).branches 52 _ _ _ _ Af E Ao Ao Aa) ?_;rintro _ ei ⟨ej,⟨ek,⟨⟨⟩,⟨a4,⟨a5,ah⟩⟩⟩⟩⟩;have el:=ah.size;have ag:=ag.fr ah Aa;clear f;have X:=X.fr ah Aa;refine eS [_,_,_,_] ag ?_;intro em bv bw en;revert a4 a5 X;refine eF bw ?_;intro a4 a5 X;refine eK ?_;refine xC bv ?_;exact AW (lY Af (fun b h=>by omega)) Af X
 rw [At e8];by_cases e9:(Aq c.ts σ).text=[102,114,111,109]
 . rw [AH e9];have E:=F.out _ e9 Ao;refine Ae func246 ntmps246 rfl rfl ?_;refine cS (eA [_,_,_,_] ?_);intro gw gx ai cn gy gz;revert f X;refine eE cn ?_;intro f X;refine eK ?_;refine cC rfl (Bf _ _ _ Af) ?_;rintro _ eo ⟨⟨⟩,co⟩;revert ai f X;refine eY co ?_;intro ep ai f X;refine C1 (AU Ab rfl rfl rfl rfl rfl rfl) ?_;refine eK ?_;refine eQ rfl ((IH k (kv _)).branches 53 _ _ _ _ Af E Ao Ao Aa) ?_;rintro _ eq ⟨er,⟨es,⟨⟨⟩,⟨a6,⟨a7,aj⟩⟩⟩⟩⟩;have et:=aj.size;have ai:=ai.fr aj Aa;clear f;have X:=X.fr aj Aa;refine eS [_,_,_,_] ai ?_;intro eu bx bz ew;revert a6 a7 X;refine eF bz ?_;intro a6 a7 X;refine eK ?_;refine xC bx ?_;exact AW (lY Af (fun b h=>by omega)) Af X
 rw [At e9];by_cases bd:(Aq c.ts σ).text=[108,111,99,97,108]
 . rw [AH bd];have E:=F.out _ bd Ao;refine Ae func246 ntmps246 rfl rfl ?_;refine cS (eA [_,_,_,_] ?_);intro g0 g1 ak cp g2 g3;revert f X;refine eE cp ?_;intro f X;refine eK ?_;refine cC rfl (Bf _ _ _ Af) ?_;rintro _ ey ⟨⟨⟩,cq⟩;revert ak f X;refine eY cq ?_;intro ez ak f X;refine C1 (AU Ab rfl rfl rfl rfl rfl rfl) ?_;refine eK ?_;refine eQ rfl ((IH k (kv _)).local_ _ _ Af E Aa) ?_;rintro _ fa ⟨fc,⟨fd,⟨⟨⟩,⟨a8,⟨a9,al⟩⟩⟩⟩⟩;have fe:=al.size;have ak:=ak.fr al Aa;clear f;have X:=X.fr al Aa;refine eS [_,_,_,_] ak ?_;intro ff b0 b2 fg;revert a8 a9 X;refine eF b2 ?_;intro a8 a9 X;refine eK ?_;refine xC b0 ?_;exact AW (lY Af (fun b h=>by omega)) Af X
 rw [At bd];refine Ae func246 ntmps246 rfl rfl ?_;refine cS (eA [_,_,_,_] ?_);intro g4 g5 am cr g6 g7;revert f X;refine eE cr ?_;intro f X;refine eK ?_;refine cC rfl (Bf _ _ _ Af) ?_;rintro _ fh ⟨⟨⟩,ct⟩;revert am f X;refine eY ct ?_;intro fi am f X;refine C1 (AU Ab rfl rfl rfl rfl rfl rfl) ?_;refine eK ?_;refine eQ rfl (YE c k _ _ Af Aa) ?_;rintro _ fj ⟨fk,⟨fl,⟨⟨⟩,⟨ba,⟨bb,an⟩⟩⟩⟩⟩;have fm:=an.size;have am:=am.fr an Aa;clear f;have X:=X.fr an Aa;refine eS [_,_,_,_] am ?_;intro fo b3 b4 fp;revert ba bb X;refine eF b4 ?_;intro ba bb X;refine eK ?_;refine xC b3 ?_;exact AW (lY Af (fun b h=>by omega)) Af X
def KQ {ts:List Tok} {σ σ':PS} (h:Le ts σ σ') (k:Lt σ σ') (e:σ'.err=0):mS ts σ'+1<=mS ts σ:=by
 have h1:=h.ok e;have f:=k e;have E:=h.wf;unfold mS;rw [AH e,AH h1];omega
def aZ (c:PC) (k:Nat) (IH : ∀j,j<=k->StmtsC c j) (σ:PS) (w:wD) (hP:PP c σ w) (hk:4*mS c.ts σ+8<=k+1) :
 Calls prog 213 #[.pointer (some ⟨c.pb,0,none⟩)] w (TreeR c w (Co c.ts c.n (k+1) σ)):=by
 have X:=mb (· = c.pb) w;have hpb:=hP.pbB;have hB:=hP.B;have hlen:=hP.len;rw [Co]
 (try dsimp only)
 have l1:=As (n:=c.n) (t:=[123]) hP.at_ Ao;have m1:=BN l1;have hmt:mS c.ts σ<=c.ts.length:=by unfold mS;split<;>omega
 refine Ae func213 ntmps213 rfl rfl ?_;refine cS (eA [_,_,_,_] ?_);intro b1 w2 h5 x6 p7 z8;revert hP X;refine eE x6 ?_;intro hP X;refine cN (C1 (xB [_,_,_,_]) (xA [_,_,_,_] ?_));intro b9 av M;refine eI [_,_,_,_] M ?_;intro aw u N ax ay;revert h5 hP X;refine eE N ?_;intro h5 hP X;refine eK ?_;refine cC rfl (B3 _ _ _ _ Af Ao) ?_;rintro _ O ⟨⟨⟩,⟨Q,z⟩⟩;revert u h5;refine eZ z ?_;intro az u h5;clear hP;have X:=X.fr z Aa;refine cT (Al (Ax ?_));generalize Az c.ts c.n σ [123]=ρ at *;refine AM (ι:=Nat×List Nd×oA×Nat×PS) (fun _=>[(0,.pointer (some ⟨c.pb,0,none⟩)),(2,.pointer (some ⟨b1,0,none⟩)),(3,.pointer (some ⟨b9,0,none⟩))])
  (fun x w'=>PP c x.2.2.2.2 w'/\Blk w' b9 [.int .u8 57,.int .i64 0,str [],.slice x.2.2.1 x.2.1.length x.2.2.2.1]/\OwnL ndShape w' (b9+1) 32 (.slice x.2.2.1 x.2.1.length x.2.2.2.1) x.2.1 /\
   Blk w' b1 [.int .u8 0,.int .i64 0,.string ⟨#[]⟩,.slice none 0 0]/\Fr (· = c.pb) w w'/\O.heap.size<=w'.heap.size /\
   Cz c.ts c.n k [] ρ=Cz c.ts c.n x.1 x.2.1 x.2.2.2.2/\(x.2.2.2.2.err=0->4*mS c.ts x.2.2.2.2+7<=x.1)/\1<=x.1/\x.1<=k/\(x.2.2.2.2.err=0->x.2.1.length+mS c.ts x.2.2.2.2<=1000001)) (fun x=>x.1) (k,[],none,0,ρ) sB
  ⟨Q,u,OwnL.nil,h5,X,kv _,rfl,fun _=>by simp only;omega,by simp only;omega,kv _,fun _=>by simp only [ki];omega⟩ ?_
 rintro ⟨j,acc,a,cap,σ'⟩ w1 ⟨hP,hbn,hown,hbr,X,hz,he,hfj,R,hjk,hacc⟩;simp only at hP hbn hown he hfj R hjk hacc;rw [he];obtain ⟨j,rfl⟩ : ∃i,j=i+1:=⟨j-1,Aa⟩
 have hob : ∀g,(lm a acc.length cap).ownBlock=some g->g<w1.heap.size:=fun g h=>hown.lt h
 by_cases h0:σ'.err=0
 case neg=>
  rw [show Cz c.ts c.n (j+1) acc σ'=(acc,σ') from by rw [Cz];simp [h0]];refine Al (cS (C1 Mv (C1 Pn (C1 Pf (C1 (Pl (PP.blk hP)) ?_)))));refine eK ?_;refine eS [_,_,_,_] hbr ?_;intro a0 S T a1;clear hbr;revert hP hbn hown X;refine eF T ?_;intro hP hbn hown X;refine eK ?_;refine xC S ?_;exact AW (KC (hown.sits (fun b h=>by omega))) Af X
 cases hc:B1 c.ts σ' [125]
 case true=>
  rw [show Cz c.ts c.n (j+1) acc σ'=(acc,Ap σ') from by rw [Cz];simp [h0,hc]];refine Al (cS (C1 Mv (C1 Pn (C1 Pf (C1 (Pl (PP.blk hP)) ?_)))));refine eK ?_;refine cC rfl (Cs _ _ _ _ Af Ao Af) ?_;rintro _ a2 ⟨⟨⟩,⟨A,C⟩⟩;have a3:=C.size;clear hP;revert hbn hown hbr X;refine eF C ?_;intro hbn hown hbr X;refine eK ?_;refine eS [_,_,_,_] hbr ?_;intro a4 U V a5;clear hbr;revert A hbn hown X;refine eF V ?_;intro A hbn hown X;refine eK ?_;refine xC U ?_;exact AW (KC (hown.sits (fun b h=>by omega))) Af X
 rw [show Cz c.ts c.n (j+1) acc σ'=Cz c.ts c.n j (acc++[(Bm c.ts c.n j σ').1]) (Az c.ts c.n (Bm c.ts c.n j σ').2 [59]) from by rw [Cz];simp [h0,hc]];have l1:=(Ei (ts:=c.ts) (n:=c.n) j).1 σ' hP.at_;have l2:=As (n:=c.n) (t:=[59]) l1.wf Ao;have hlt:Lt σ' (Az c.ts c.n (Bm c.ts c.n j σ').2 [59]):=Lt.of_le l1 D5;have hdrop:=KQ (l1.trans l2) hlt;have hmv:=Vo (l1.trans l2) hlt;have W:=hacc h0;have ab:=hfj h0;refine Al (cS (C1 Mv (C1 Pn (C1 Pf (C1 (Pl (PP.blk hP)) ?_)))));refine eK ?_;refine cC rfl (B2 _ _ _ _ Af Ao Af) ?_;rintro _ D ⟨⟨⟩,⟨v,E⟩⟩;have a6:=E.size;clear hP;revert hbn hown hbr X;refine eF E ?_;intro hbn hown hbr X;refine eK ?_;refine AE (fun wz=>Fr (· = c.pb) D wz) 5 (.pure 0 (.pure 1 (.pure 2 (.fork 3 (.fork 4 .tail .none) .none)))) mixed BD (Ac (Ak (Ac (Ak (Ac An))))) ?_;intro Y F _;have d:(fun wz=>Fr (· = c.pb) D wz) Y:=mi F;simp only at d;have Z:=v;have y:=hbn;have L:=hown;have aa:=hbr;revert v hbn hown hbr X;refine eY F ?_;intro a7 v hbn hown hbr X;refine ⟨d,?_⟩;refine Tq rfl Pf (Tq rfl (AA Ab rfl rfl rfl (fun wz hz=>lX (lW y hz Aa) rfl)) (Tq rfl Mv ?_));refine tC rfl rfl ((IH j Aa).stmt _ _ Af Aa) ?_;rintro _ ac ⟨a8,⟨ad,⟨⟨⟩,⟨q,⟨f,o⟩⟩⟩⟩⟩;have ae:=o.size;have d:=d.fr o Aa;revert hbn hown hbr X;refine eF o ?_;intro hbn hown hbr X;refine ⟨d,?_⟩;refine A1 rfl (xS [_,_,_,_]) rfl ?_ aFh A9;rintro _ af ⟨ag,rfl,l,ah⟩
 have ai:=l.blk;have G:=l.ext;have aj:=l.pos;have ak:=l.size;revert q f d hbn hown hbr X;refine eE G ?_;intro q f d hbn hown hbr X;refine ⟨d,?_⟩;refine AI rfl (BV (sh:=ndShape) Ab C9 rfl rfl rfl rfl BD rfl rfl rfl hown (l8 Af) ⟨_,_,rfl,lY Af (fun b h=>⟨Aa,fun e=>by have:=hob _ e;omega⟩)⟩ Aa Aa rfl ?_);rintro al I am m p;have an:=p.size;revert f hbn;refine eF p ?_;intro f hbn;clear hown;revert hbr X;refine eF p ?_;intro hbr X;refine C1 Pf (eV [_] [_,_,_,_] hbn ?_);intro ao r J ap;clear hbn;revert m f hbr X;refine eF J ?_;intro m f hbr X;refine eK ?_;refine cC rfl (B3 _ _ _ _ Af Ao) ?_;rintro _ aq ⟨⟨⟩,⟨ar,s⟩⟩;revert r m;refine eZ s ?_;intro au r m;revert hbr X;refine eF s ?_;intro hbr X;refine Ah (Ad ?_);refine Ay (j,acc++[(Bm c.ts c.n j σ').1],some ⟨_,0,none⟩,_,Az c.ts c.n (Bm c.ts c.n j σ').2 [59]) sB ⟨Af,Af,Af,Af,X,Aa,rfl,fun e=>by have:=hdrop e;simp only;omega,by simp only;omega,by simp only;omega,fun e=>?_⟩ A6;have:=hdrop e;simp only [j9,kf,ki];omega
def bA (c:PC) (k:Nat):StmtsC c k:=by
 induction k using Nat.strongRecOn with
 | _ k E=>
  cases k with
  | zero=>exact ⟨fun _ _ _ h=>by omega,fun _ _ _ _ _ _ _ _ _ h=>by omega,fun _ _ _ _ h=>by omega,fun _ _ _ h=>by omega⟩
  | succ k=>
   have f : ∀j,j<=k->StmtsC c j:=fun j F=>E j Aa
   exact ⟨fW c k f,T7 c k f,aY c k f,aZ c k f⟩
def OI (l:List Nd) (x:Nd):AT (l++[x])=max (AT l) x.depth:=by
 induction l with
 | nil=>simp only [lk,AT];omega
 | cons y r f=>simp only [kD,AT,f];omega
mutual
def Nv : ∀t:Nd,1<=t.depth/\t.depth<=t.size
 | .mk _ _ _ l=>by
  have:=E1 l;simp only [Nd.depth,lR];omega
def E1 : ∀l:List Nd,0<=AT l/\AT l<=Aj l
 | []=>by simp [AT,Aj]
 | t::r=>by
  have h1:=Nv t;have h2:=E1 r;simp only [AT,Aj];omega
end
def IA (l:List Nd) (x:Nd):Aj (l++[x])=Aj l+x.size:=by
 induction l with
 | nil=>simp [Aj]
 | cons y r f=>simp only [kD,Aj,f];omega
def Ga (l:List Nd) (j:Nat):Aj (l.take j)<=Aj l:=by
 induction l generalizing j with
 | nil=>simp
 | cons x r f=>
  cases j with
  | zero=>simp [Aj]
  | succ j=>simp only [lo,Aj];have:=f j;omega
def I9 (l:List Nd):l.length<=Aj l:=by
 induction l with
 | nil=>simp [Aj]
 | cons x r f=>have:=Nd.size_pos x;simp only [Aj,kf];omega
def Q2 (N:Nat) : ∀(t:Nd) (S:nP) (a:oA) (c:Nat) (w:wD),t.size<N->t.size<=1000000000->t.sits S w a ->
 Calls prog 247 #[t.val a c] w fun e w'=>e = .returned (.int .i64 t.depth)/\Ext w w':=by
 induction N with
 | zero=>intro t S a c w h;omega
 | succ N ih=>
  rintro ⟨k,n,s,l⟩ S a c w hN hM f;have IH:=kh ih;clear ih;simp only [Nd.sits] at f;simp only [lR] at hN hM;have X:=lN w;have hl:=I9 l;rw [show (Nd.mk k n s l).depth=AT l+1 from by simp only [Nd.depth]];refine Ae func247 ntmps247 rfl rfl ?_;refine cS (eB [_,_,_,_] ?_);intro b1 w2 h4 x5 p6 z7;revert f X;refine eE x5 ?_;intro f X;refine C1 Pa (cN (C1 Pa (cT (Al (cS (C1 Pf (C1 (Pl h4) (C1 Pz (C1 Mv (cT (Ax ?_)))))))))));refine AM (ι:=Nat) (fun j=>[(9,.int .i64 j),(8,.int .i64 l.length),(7,.slice a l.length c),(3,.int .i64 (AT (l.take j)))]) (fun j w'=>rowSits S w' l a/\Ext w w'/\j<=l.length) (fun j=>l.length-j) 0 sB ⟨f,X,kC _⟩ ?_;rintro j w1 ⟨f,X,hj⟩;by_cases E:j<l.length
  . obtain ⟨kb,ko,rfl,ad,F⟩:=Bx f (by intro e;subst e;simp at E);obtain ⟨xa,xc,M,O⟩:=F j l[j] (kg E);have ae:=EF (kq E);have ht:l.take (j+1)=l.take j++[l[j]]:=by rw [List.take_add_one,kg E];rfl
    have U:=E1 (l.take j);have af:=Ga l j;have V:=Ga l (j+1);have ag:=Nv l[j];rw [ht,IA] at V;clear F;generalize l[j]=x at *;refine eK ?_;refine xA [_,_,_,_] ?_;intro ah ai Y;refine eI [_,_,_,_] Y ?_;intro aj L Z ak al;revert X f M O;refine eE Z ?_;intro X f M O;refine eK ?_;refine cC rfl (IH.out _ S _ _ _ Aa Aa Af) ?_;rintro _ ab ⟨⟨⟩,aa⟩;revert L X f M O;refine eY aa ?_;intro ac L X f M O;refine C1 (Z2 rfl rfl rfl) (C1 Pa (Ah (Ad (Ai (Ag (C1 V7 (C1 Mv (Ah ?_))))))));refine Ay (j+1) ?_ ⟨f,X,Aa⟩ Aa;refine Am rfl (Am rfl (Am rfl (Bj rfl ?_ BB)));rw [ht,OI]
  . have:j=l.length:=by omega
    subst this;have U:=E1 l;rw [kE];refine eK ?_;refine xR ?_;exact ⟨rfl,X⟩
def YF (N:Nat) : ∀(t:Nd) (S:nP) (a:oA) (c:Nat) (w:wD),t.size<N->t.size<=1000000000->t.sits S w a ->
 Calls prog 248 #[t.val a c] w fun e w'=>e = .returned (.int .i64 t.size)/\Ext w w':=by
 induction N with
 | zero=>intro t S a c w h;omega
 | succ N ih=>
  rintro ⟨k,n,s,l⟩ S a c w hN hM f;have IH:=kh ih;clear ih;simp only [Nd.sits] at f;simp only [lR] at hN hM;have X:=lN w;have hl:=I9 l;rw [show ((Nd.mk k n s l).size:Int)=((Aj l:Nat):Int)+1 from by simp only [lR];omega];refine Ae func248 ntmps248 rfl rfl ?_;refine cS (eB [_,_,_,_] ?_);intro b1 w2 h4 x5 p6 z7;revert f X;refine eE x5 ?_;intro f X;refine C1 Pa (cN (C1 Pa (cT (Al (cS (C1 Pf (C1 (Pl h4) (C1 Pz (C1 Mv (cT (Ax ?_)))))))))));refine AM (ι:=Nat) (fun j=>[(9,.int .i64 j),(8,.int .i64 l.length),(7,.slice a l.length c),(3,.int .i64 (((Aj (l.take j):Nat):Int)+1))]) (fun j w'=>rowSits S w' l a/\Ext w w'/\j<=l.length) (fun j=>l.length-j) 0 sB ⟨f,X,kC _⟩ ?_;rintro j w1 ⟨f,X,hj⟩;by_cases E:j<l.length
  . obtain ⟨kb,ko,rfl,ad,F⟩:=Bx f (by intro e;subst e;simp at E);obtain ⟨xa,xc,M,O⟩:=F j l[j] (kg E);have ae:=EF (kq E);have ht:l.take (j+1)=l.take j++[l[j]]:=by rw [List.take_add_one,kg E];rfl
    have U:=E1 (l.take j);have af:=Ga l j;have V:=Ga l (j+1);have ag:=Nv l[j];rw [ht,IA] at V;clear F;generalize l[j]=x at *;refine eK ?_;refine xA [_,_,_,_] ?_;intro ah ai Y;refine eI [_,_,_,_] Y ?_;intro aj L Z ak al;revert X f M O;refine eE Z ?_;intro X f M O;refine eK ?_;refine cC rfl (IH.out _ S _ _ _ Aa Aa Af) ?_;rintro _ ab ⟨⟨⟩,aa⟩;revert L X f M O;refine eY aa ?_;intro ac L X f M O;refine C1 V7 (C1 Pa (Ah (Ad (Ai (Ag (C1 V7 (C1 Mv (Ah ?_))))))));refine Ay (j+1) ?_ ⟨f,X,Aa⟩ Aa;refine Am rfl (Am rfl (Am rfl (Bj rfl ?_ BB)));rw [ht,IA];congr 1;omega
  . have:j=l.length:=by omega
    subst this;have U:=E1 l;rw [kE];refine eK ?_;refine xR ?_;exact ⟨rfl,X⟩
section
variable {ts:List Tok} {n:Int}
def Dt (σ:PS):(Ap σ).at_=σ.at_+1:=rfl
def Pu (k:Nat):(∀lv σ,σ.at_<=ts.length->(Bu ts n k lv σ).1.size+8*σ.at_<=8*(Bu ts n k lv σ).2.at_+1)/\(∀lv x σ,σ.at_<=ts.length->(BQ ts n k lv x σ).1.size+8*σ.at_<=8*(BQ ts n k lv x σ).2.at_+x.size) /\
 (∀ σ,σ.at_<=ts.length->(Ba ts n k σ).1.size+8*σ.at_<=8*(Ba ts n k σ).2.at_+1)/\(∀ σ,σ.at_<=ts.length->(Be ts n k σ).1.size+8*σ.at_<=8*(Be ts n k σ).2.at_+1) /\
 (∀ σ,σ.at_<=ts.length->(Bz ts n k σ).1.size+8*σ.at_<=8*(Bz ts n k σ).2.at_+1):=by
 induction k with
 | zero=>
  refine ⟨fun lv σ h=>?_,fun lv x σ h=>?_,fun σ h=>?_,fun σ h=>?_,fun σ h=>?_⟩
  . rw [Bu];simp [lR,Aj];omega
  . rw [BQ];simp;omega
  . rw [Ba];simp [lR,Aj];omega
  . rw [Be];simp [lR,Aj];omega
  . rw [Bz];simp [lR,Aj];omega
 | succ k Z=>
  obtain ⟨N,X,O,iP,iL⟩:=Z;obtain ⟨M,lC,lU,lP,lL⟩:=Fm (ts:=ts) (n:=n) k;refine ⟨fun lv σ h=>?_,fun lv x σ h=>?_,fun σ h=>?_,fun σ h=>?_,fun σ h=>?_⟩
  . rw [Bu];have h1:=O σ h;have F:=X lv (Ba ts n k σ).1 (Ba ts n k σ).2 (lU σ h).1.wf;omega
  . rw [BQ];split
    . simp;omega
    . rename_i op U;obtain ⟨V,-⟩:=Gz U;have f:=AB (Cc h (kj V));split
      . simp;omega
      . have h1:=N (Bv op+1) (Ap σ) f.wf;have F:=X lv (.mk op 0 [] [x,(Bu ts n k (Bv op+1) (Ap σ)).1]) (Bu ts n k (Bv op+1) (Ap σ)).2 (M (Bv op+1) (Ap σ) f.wf).1.wf;have L:=(M (Bv op+1) (Ap σ) f.wf).1.le;rw [Dt] at h1 L;simp only [lR,Aj] at F;omega
  . rw [Ba];split
    . rename_i E;have f:=AB (AP h E Ao);have h1:=O (Ap σ) f.wf;rw [Dt] at h1;simp only [lR,Aj];omega
    . split
      . rename_i E;have f:=AB (AP h E Ao);have h1:=O (Ap σ) f.wf;rw [Dt] at h1;simp only [lR,Aj];omega
      . exact iP σ h
  . rw [Be];split
    . have:=(Gg (n:=n) (a:=0) (b:=9223372036854775807) h).le;simp only [lR,Aj];omega
    . split
      . rename_i E;have h1:=AB (AP h E Ao);have F:=h1.trans (As (n:=n) (t:=[40]) h1.wf Ao);have L:=F.trans (AO (n:=n) F.wf);have h4:=(L.trans (As (n:=n) (t:=[41]) L.wf Ao)).le;simp only [lR,Aj];omega
      . split
        . rename_i E;have h1:=AB (AP h E Ao);have F:=h1.trans (As (n:=n) (t:=[40]) h1.wf Ao);have L:=F.trans (AO (n:=n) F.wf);have h4:=(L.trans (As (n:=n) (t:=[41]) L.wf Ao)).le;simp only [lR,Aj];omega
        . split
          . rename_i E;have f:=AB (AP h E Ao);have h1:=N 1 (Ap σ) f.wf;have F:=(As (n:=n) (t:=[41]) (M 1 (Ap σ) f.wf).1.wf Ao).le;rw [Dt] at h1;simp only;omega
          . exact iL σ h
  . rw [Bz];have Y:=AO (n:=n) h;have aa:=Y.le;split
    . rename_i E;have f:=AB (AP Y.wf E Ao);have h1:=N 1 (Ap (A2 ts n σ).2) f.wf;have F:=(As (n:=n) (t:=[93]) (M 1 _ f.wf).1.wf Ao).le;rw [Dt] at h1;simp only [lR,Aj];omega
    . simp only [lR,Aj];omega
def Ja (l m:List Nd):Aj (l++m)=Aj l+Aj m:=by
 induction l with
 | nil=>simp [Aj]
 | cons x r f=>simp only [kD,Aj,f];omega
def Sh (σ:PS):(DN ts n σ).1.size=1:=rfl
def Pv : ∀(k:Nat) (acc:List Nd) (σ:PS),σ.at_<=ts.length->Aj (CK ts n k acc σ).1+8*σ.at_<=8*(CK ts n k acc σ).2.at_+Aj acc
 | 0,acc,σ,h=>by rw [CK];simp;omega
 | k+1,acc,σ,h=>by
  rw [CK];split
  . rename_i L;have h1:=AB (AP h L Ao);generalize M:(if acc.length=8/\AS (Aq ts (Ap σ)).text=true then BE (Ap σ) (Aq ts (Ap σ)).pos 5 else Ap σ)=ρ;have f:Le ts (Ap σ) ρ:=by
     rw [<-M];split
     . exact B6 h1.wf _ _
     . exact mp h1.wf
    have E:=AO (n:=n) f.wf;have F:=Pv k (acc++[(DN ts n ρ).1]) (DN ts n ρ).2 E.wf;rw [Ja] at F;have O:(DN ts n ρ).2.at_>=σ.at_+1:=by
     have N:=f.le;have U:=E.le;rw [Dt] at N;show (A2 ts n ρ).2.at_>=σ.at_+1;omega
    simp only [Aj,Sh] at F;omega
  . simp;omega
def PA {k:Nat} {kind:Int} {σ:PS} (E:In ts σ):(Ft ts n k kind σ).1.size+8*σ.at_<=8*(Ft ts n k kind σ).2.at_+1:=by
 unfold Ft;dsimp only;have h1:=AB E;have f:=h1.trans (AO (n:=n) h1.wf);have F:=f.trans (As (n:=n) (t:=[40]) f.wf Ao);have L:=(AO (n:=n) h1.wf).le;have U:=(As (n:=n) (t:=[40]) f.wf Ao).le;rw [Dt] at L;split
 . have:=Dt (Az ts n (A2 ts n (Ap σ)).2 [40]);simp only [lR,Aj];omega
 . have h:=AO (n:=n) F.wf;have M:=h.le;have N:=Pv (ts:=ts) (n:=n) k [(DN ts n (Az ts n (A2 ts n (Ap σ)).2 [40])).1] (DN ts n (Az ts n (A2 ts n (Ap σ)).2 [40])).2 h.wf;have O:=Q1 (n:=n) k [(DN ts n (Az ts n (A2 ts n (Ap σ)).2 [40])).1] (DN ts n (Az ts n (A2 ts n (Ap σ)).2 [40])).2 h.wf;have V:=(As (n:=n) (t:=[41]) O.wf Ao).le;have X:(DN ts n (Az ts n (A2 ts n (Ap σ)).2 [40])).2.at_>=(Az ts n (A2 ts n (Ap σ)).2 [40]).at_:=M;simp only [Aj,Sh] at N;simp only [lR];omega
def IB {k:Nat} {σ:PS} (h:σ.at_<=ts.length):(Bz ts n k σ).1.size+8*σ.at_<=8*(Bz ts n k σ).2.at_+1:=(Pu k).2.2.2.2 σ h
def GD {k:Nat} {lv:Int} {σ:PS} (h:σ.at_<=ts.length):(Bu ts n k lv σ).1.size+8*σ.at_<=8*(Bu ts n k lv σ).2.at_+1:=(Pu k).1 lv σ h
def Si {k:Nat} {σ:PS} (h:σ.at_<=ts.length):(Di ts n k σ).1.size+8*σ.at_<=8*(Di ts n k σ).2.at_+1:=by
 unfold Di;dsimp only;have h1:=IB (n:=n) (k:=k) h;have f:=GB (n:=n) (k:=k) h;split
 . rename_i E;have F:=AB (AP f.wf E Ao);have L:=IB (n:=n) (k:=k) F.wf;rw [Dt] at L;simp only [lR,Aj];omega
 . split
   . have:=(Hu (n:=n) f.wf).le;have:=f.le;simp only [lR,Aj];omega
   . rename_i E;have F:=AB (Cc f.wf (kj (Ns E)));have L:=GD (n:=n) (k:=k) (lv:=1) F.wf;rw [Dt] at L;simp only [lR,Aj];omega
def Nw {k:Nat} {kind:Int} {σ:PS} (h:In ts σ):(Fy ts n k kind σ).1.size+8*σ.at_<=8*(Fy ts n k kind σ).2.at_+1:=by
 unfold Fy;dsimp only;have h1:=AB h;have E:=IB (n:=n) (k:=k) h1.wf;have F:=GB (n:=n) (k:=k) h1.wf;have f:=As (n:=n) (t:=[44]) F.wf Ao;have M:=(AO (n:=n) f.wf).le;have L:=f.le;rw [Dt] at E;simp only [lR,Aj];omega
def JC {k:Nat} {kind:Int} {σ:PS} (f:In ts σ):(Gs ts n k kind σ).1.size+8*σ.at_<=8*(Gs ts n k kind σ).2.at_+1:=by
 unfold Gs;have h1:=AB f;have h:=IB (n:=n) (k:=k) h1.wf;rw [Dt] at h;simp only [lR,Aj];omega
def WO (k:Nat):(∀ σ,σ.at_<=ts.length->(Bm ts n k σ).1.size+8*σ.at_<=8*(Bm ts n k σ).2.at_+1)/\(∀kind F E σ,In ts σ->F≠[]->E≠[]->(BM ts n k kind F E σ).1.size+8*σ.at_<=8*(BM ts n k kind F E σ).2.at_+1)/\(∀ σ,In ts σ->(Dy ts n k σ).1.size+8*σ.at_<=8*(Dy ts n k σ).2.at_+1) /\
 (∀ σ,σ.at_<=ts.length->(Co ts n k σ).1.size+8*σ.at_<=8*(Co ts n k σ).2.at_+2)/\(∀acc σ,σ.at_<=ts.length->Aj (Cz ts n k acc σ).1+8*σ.at_<=8*(Cz ts n k acc σ).2.at_+Aj acc+(if σ.err=0 then 1 else 0)):=by
 induction k with
 | zero=>
  refine ⟨fun σ h=>?_,fun kind F E σ h _ _=>?_,fun σ h=>?_,fun σ h=>?_,fun acc σ h=>?_⟩
  . rw [Bm];simp [lR,Aj];omega
  . rw [BM];simp [lR,Aj];omega
  . rw [Dy];simp [lR,Aj];omega
  . rw [Co];simp [lR,Aj];omega
  . rw [Cz];simp only;split<;>omega
 | succ k ih=>
  obtain ⟨iS,iB,iL,Y,iT⟩:=ih;obtain ⟨lS,lB,lL,lK,lT⟩:=Ei (ts:=ts) (n:=n) k;refine ⟨fun σ h=>?_,fun kind F E σ hn V O=>?_,fun σ hn=>?_,fun σ h=>?_,fun acc σ h=>?_⟩
  . have f : ∀t:List UInt8,(Aq ts σ).text=t->t≠[]->In ts σ:=fun t e ht=>Cc h (kj (by rw [e];exact ht))
    rw [Bm]
    by_cases e:(Aq ts σ).text=[112,117,115,104]
    . rw [AH e];exact Nw (f _ e Ao)
    rw [At e];clear e
    by_cases e:(Aq ts σ).text=[112,111,112]
    . rw [AH e];exact Nw (f _ e Ao)
    rw [At e];clear e
    by_cases e:(Aq ts σ).text=[114,101,97,100]
    . rw [AH e];exact JC (f _ e Ao)
    rw [At e];clear e
    by_cases e:(Aq ts σ).text=[117,110,114,101,97,100]
    . rw [AH e];exact JC (f _ e Ao)
    rw [At e];clear e
    by_cases e:(Aq ts σ).text=[119,114,105,116,101]
    . rw [AH e];exact JC (f _ e Ao)
    rw [At e];clear e
    by_cases e:(Aq ts σ).text=[117,110,119,114,105,116,101]
    . rw [AH e];exact JC (f _ e Ao)
    rw [At e];clear e
    by_cases e:(Aq ts σ).text=[99,97,108,108]
    . rw [AH e];exact PA (f _ e Ao)
    rw [At e];clear e
    by_cases e:(Aq ts σ).text=[117,110,99,97,108,108]
    . rw [AH e];exact PA (f _ e Ao)
    rw [At e];clear e
    by_cases e:(Aq ts σ).text=[105,102]
    . rw [AH e];exact iB _ _ _ σ (f _ e Ao) Ao Ao
    rw [At e];clear e
    by_cases e:(Aq ts σ).text=[102,114,111,109]
    . rw [AH e];exact iB _ _ _ σ (f _ e Ao) Ao Ao
    rw [At e];clear e
    by_cases e:(Aq ts σ).text=[108,111,99,97,108]
    . rw [AH e];exact iL σ (f _ e Ao)
    rw [At e];clear e
    exact Si h
  . rw [BM]
    (try dsimp only);have L:=AB hn;have Z:=GD (n:=n) (k:=k) (lv:=1) L.wf;have M:=DZ (n:=n) (k:=k) (lv:=1) L.wf;have s3:=Y _ M.wf;have N:=lK _ M.wf;have U:=As (n:=n) N.wf V;have s5:=Y _ U.wf;have l5:=lK _ U.wf;have X:=As (n:=n) l5.wf O;have s7:=GD (n:=n) (k:=k) (lv:=1) X.wf;have e4:=U.le;have e6:=X.le;rw [Dt] at Z
    simp only [lR,Aj];omega
  . rw [Dy]
    (try dsimp only);have L:=AB hn
    split
    . rename_i hh
      have M:=AB (AP L.wf hh Ao);have N:=AO (n:=n) M.wf;have s4:=Y _ N.wf;have e3:=N.le;rw [Dt,Dt] at e3
      simp only [lR,Aj];omega
    . have M:=AO (n:=n) L.wf
      have N:=As (n:=n) (t:=[61]) M.wf Ao;have s4:=GD (n:=n) (k:=k) (lv:=1) N.wf;have U:=DZ (n:=n) (k:=k) (lv:=1) N.wf;have s5:=Y _ U.wf;have l5:=lK _ U.wf;have X:=As (n:=n) (t:=[100,101,108,111,99,97,108]) l5.wf Ao;have s7:=GD (n:=n) (k:=k) (lv:=1) X.wf;have e2:=M.le;have e3:=N.le;have e6:=X.le;rw [Dt] at e2
      simp only [lR,Aj];omega
  . rw [Co]
    (try dsimp only);have L:=As (n:=n) (t:=[123]) h Ao;have Z:=iT [] _ L.wf;have e1:=L.le;simp only [Aj] at Z;simp only [lR]
    split at Z<;>omega
  . rw [Cz]
    split
    . simp only;(try split)<;>omega
    . rename_i he
      have h0:σ.err=0:=Decidable.byContradiction he
      split
      . rename_i hh
        have:=Dt σ
        simp only;(try split)<;>omega
      . have s1:=iS σ h
        have L:=lS σ h;have M:=As (n:=n) (t:=[59]) L.wf Ao;have s3:=iT (acc++[(Bm ts n k σ).1]) _ M.wf;rw [Ja] at s3;simp only [Aj] at s3;have e2:=M.le
        have e3:(Az ts n (Bm ts n k σ).2 [59]).err=0->(Bm ts n k σ).2.at_+1<=(Az ts n (Bm ts n k σ).2 [59]).at_:=fun e=>D5 (n:=n) e
        (try rw [AH h0])
        split at s3
        . rename_i e;have:=e3 e;omega
        . omega
def T8 {k:Nat} {σ:PS} (h:σ.at_<=ts.length):(Co ts n k σ).1.size<=8*ts.length+2:=by
 have h1:=(WO (ts:=ts) (n:=n) k).2.2.2.1 σ h;have f:=((Ei (ts:=ts) (n:=n) k).2.2.2.1 σ h).wf;omega
end
def bB (c:PC) (σ:PS) (t:Nd) (S:nP) (a:oA) (k:Nat) (off:Int) (w:wD) (f:PP c σ w) (hz:t.size<=1000000000) (h:t.sits S w a) :
 Calls prog 214 #[.pointer (some ⟨c.pb,0,none⟩),t.val a k,.int .i64 off] w fun r w'=>r = .returned (.tuple #[])/\PP c (D7 t off σ) w'/\Fr (· = c.pb) w w':=by
 have X:=mb (· = c.pb) w;have an:=f.pbB;have hB:=f.B;by_cases U:σ.err=0
 . by_cases Y:80<t.depth
   . rw [show D7 t off σ=BE σ off 19 from by simp [D7,U,Y]];refine Ae func214 ntmps214 rfl rfl ?_;refine cS (eB [_,_,_,_] ?_);intro b1 w2 V x5 p6 z7;revert f h X;refine eE x5 ?_;intro f h X;refine cT (Ax (cS (C1 Mv (C1 Pn (C1 Pf (C1 (Pl (PP.blk f)) ?_))))));refine eK ?_;refine cC rfl (Q2 _ _ _ _ _ _ (Nat.lt_succ_self _) Aa Af) ?_;rintro _ w9 ⟨⟨⟩,x8⟩;revert V f h X;refine eY x8 ?_;intro ao V f h X;refine eK ?_;refine cC rfl (GA _ _ _ _ _ Af) ?_;rintro _ ap ⟨⟨⟩,⟨aq,M⟩⟩;have ar:=M.size;have V:=V.fr M Aa;clear f h;have X:=X.fr M Aa;refine Ah (Ad (Bt rfl ?_));exact ⟨rfl,Af,X⟩
   . by_cases h2:2000<t.size
     . rw [show D7 t off σ=BE σ off 5 from by simp [D7,U,Y,h2]];refine Ae func214 ntmps214 rfl rfl ?_;refine cS (eB [_,_,_,_] ?_);intro au av E Z aw ax;revert f h X;refine eE Z ?_;intro f h X;refine cT (Ax (cS (C1 Mv (C1 Pn (C1 Pf (C1 (Pl (PP.blk f)) ?_))))));refine eK ?_;refine cC rfl (Q2 _ _ _ _ _ _ (Nat.lt_succ_self _) Aa Af) ?_;rintro _ ay ⟨⟨⟩,aa⟩;revert E f h X;refine eY aa ?_;intro ae E f h X;refine eK ?_;refine cC rfl (YF _ _ _ _ _ _ (Nat.lt_succ_self _) Aa Af) ?_;rintro _ af ⟨⟨⟩,N⟩;revert E f h X;refine eY N ?_;intro ag E f h X;refine eK ?_;refine cC rfl (GA _ _ _ _ _ Af) ?_;rintro _ ah ⟨⟨⟩,⟨ai,F⟩⟩;have aj:=F.size;have E:=E.fr F Aa;clear f h;have X:=X.fr F Aa;refine Ah (Ad (Bt rfl ?_));exact ⟨rfl,Af,X⟩
     . rw [show D7 t off σ=σ from by simp [D7,U,Y,h2]];refine Ae func214 ntmps214 rfl rfl ?_;refine cS (eB [_,_,_,_] ?_);intro az a0 L ab a1 a2;revert f h X;refine eE ab ?_;intro f h X;refine cT (Ax (cS (C1 Mv (C1 Pn (C1 Pf (C1 (Pl (PP.blk f)) ?_))))));refine eK ?_;refine cC rfl (Q2 _ _ _ _ _ _ (Nat.lt_succ_self _) Aa Af) ?_;rintro _ a3 ⟨⟨⟩,ac⟩;revert L f h X;refine eY ac ?_;intro ak L f h X;refine eK ?_;refine cC rfl (YF _ _ _ _ _ _ (Nat.lt_succ_self _) Aa Af) ?_;rintro _ al ⟨⟨⟩,O⟩;revert L f h X;refine eY O ?_;intro am L f h X;refine C1 V5 (C1 Pa (cT (E4 (Av (Ad (Bt rfl ?_))))));exact ⟨rfl,Af,X⟩
 . rw [show D7 t off σ=σ from by simp [D7,U]];refine Ae func214 ntmps214 rfl rfl ?_;refine cS (eB [_,_,_,_] ?_);intro a4 a5 a6 ad a7 a8;revert f h X;refine eE ad ?_;intro f h X;refine cT (Ax (cS (C1 Mv (C1 Pn (C1 Pf (C1 (Pl (PP.blk f)) (C1 V2 (C1 Pa (cT (TH (Av ?_)))))))))));refine Ad (Bt rfl ?_);exact ⟨rfl,Af,X⟩
def T9 (c:PC) (k:Nat) (σ:PS) (w:wD) (E:PP c σ w) (hk:4*mS c.ts σ+8<=k) :
 Calls prog 167 #[.pointer (some ⟨c.pb,0,none⟩)] w (TreeR c w (EZ c.ts c.n k σ)):=by
 have X:=mb (· = c.pb) w;have ac:=E.pbB;have hB:=E.B;have ab:=E.len;have ad:=T8 (n:=c.n) (k:=k) E.at_;unfold EZ;refine Ae func167 ntmps167 rfl rfl ?_;refine cS (eA [_,_,_,_] ?_);intro b1 w2 F x6 p7 z8;revert E X;refine eE x6 ?_;intro E X;refine eK ?_;refine cC rfl (Bf _ _ _ Af) ?_;rintro _ ae ⟨⟨⟩,x9⟩;revert F E X;refine eY x9 ?_;intro af F E X;refine C1 (AU Ab rfl rfl rfl rfl rfl rfl) ?_;refine eK ?_;refine eQ rfl ((bA c k).block _ _ Af hk) ?_;rintro _ ag ⟨ah,⟨ai,⟨⟨⟩,⟨f,⟨N,M⟩⟩⟩⟩⟩;have aj:=M.size;have F:=F.fr M Aa;clear E;have X:=X.fr M Aa;refine xA [_,_,_,_] ?_;intro ak al V;refine eI [_,_,_,_] V ?_;intro am L Y an ao;revert f N F X;refine eE Y ?_;intro f N F X;refine eK ?_;refine cC rfl (bB _ _ _ _ _ _ _ _ Af Aa Af) ?_;rintro _ ap ⟨⟨⟩,⟨O,U⟩⟩;revert L f;refine eZ U ?_;intro aq L f;revert F X;refine eF U ?_;intro F X;refine eK ?_;refine eS [_,_,_,_] F ?_;intro ar Z aa au;revert O L f X;refine eF aa ?_;intro O L f X;refine eK ?_;refine xC Z ?_;exact AW (lY Af (fun b h=>by omega)) Af X
def Jb (c:PC) (σ:PS) (w:wD) (f:PP c σ w) :
 Calls prog 161 #[.pointer (some ⟨c.pb,0,none⟩)] w fun r w'=>r = .returned (.bool (Cb c.ts σ))/\Ext w w':=by
 have X:=lN w;by_cases h1:(Aq c.ts σ).text=[105,110,116]
 . rw [show Cb c.ts σ=true from by simp [Cb,B1,h1]];refine Ae func161 ntmps161 rfl rfl ?_;refine eK ?_;refine cC rfl (Bf _ _ _ Af) ?_;rintro _ w2 ⟨⟨⟩,N⟩;revert f X;refine eY N ?_;intro z3 f X;refine C1 (AU Ab rfl rfl rfl rfl rfl rfl) ?_;refine eK ?_;refine xR ?_;exact ⟨rfl,X⟩
 by_cases L:(Aq c.ts σ).text=[97,114,114,97,121]
 . rw [show Cb c.ts σ=true from by simp [Cb,B1,L]];refine Ae func161 ntmps161 rfl rfl ?_;refine eK ?_;refine cC rfl (Bf _ _ _ Af) ?_;rintro _ O ⟨⟨⟩,h⟩;revert f X;refine eY h ?_;intro U f X;refine C1 (AU Ab rfl rfl rfl rfl rfl rfl) ?_;refine eK ?_;refine xR ?_;exact ⟨rfl,X⟩
 by_cases M:(Aq c.ts σ).text=[115,116,97,99,107]
 . rw [show Cb c.ts σ=true from by simp [Cb,B1,M]];refine Ae func161 ntmps161 rfl rfl ?_;refine eK ?_;refine cC rfl (Bf _ _ _ Af) ?_;rintro _ V ⟨⟨⟩,E⟩;revert f X;refine eY E ?_;intro Y f X;refine C1 (AU Ab rfl rfl rfl rfl rfl rfl) ?_;refine eK ?_;refine xR ?_;exact ⟨rfl,X⟩
 . rw [show Cb c.ts σ=false from by simp [Cb,B1,h1,L,M]];refine Ae func161 ntmps161 rfl rfl ?_;refine eK ?_;refine cC rfl (Bf _ _ _ Af) ?_;rintro _ Z ⟨⟨⟩,F⟩;revert f X;refine eY F ?_;intro aa f X;refine C1 (AU Ab rfl rfl rfl rfl rfl rfl) ?_;refine eK ?_;refine xR ?_;exact ⟨rfl,X⟩
def Lx (c:PC) (σ:PS) (w:wD) (hP:PP c σ w) :
 Calls prog 164 #[.pointer (some ⟨c.pb,0,none⟩)] w fun r w'=>r = .returned (Bp c.ts c.n σ).1.val/\PP c (Bp c.ts c.n σ).2 w'/\Fr (· = c.pb) w w':=by
 have X:=mb (· = c.pb) w;have hpb:=hP.pbB;have hB:=hP.B;unfold Bp;cases h1:B1 c.ts σ [105,110,116]
 case true=>
  simp only [if_true];refine Ae func164 ntmps164 rfl rfl ?_;refine cS (eA [_,_,_] ?_);intro b1 w2 h5 x6 p7 z8;revert hP X;refine eE x6 ?_;intro hP X;refine eK ?_;refine cC rfl (Cs _ _ _ _ Af Ao Af) ?_;rintro _ bl ⟨⟨⟩,⟨h9,D⟩⟩;have bm:=D.size;have h5:=h5.fr D Aa;clear hP;have X:=X.fr D Aa;refine eK ?_;refine cC rfl (FC _ _ _ Af) ?_;rintro _ bn ⟨⟨⟩,⟨E,F⟩⟩;have bo:=F.size;revert h5 X;refine eF F ?_;intro h5 X;refine C1 (xB [_,_,_]) (eS [_,_,_] h5 ?_);intro bp S T bq;revert E X;refine eF T ?_;intro E X;refine eK ?_;refine xC S ?_;exact ⟨rfl,Af,X⟩
 simp only [lj,if_false];cases h2:B1 c.ts σ [115,116,97,99,107]
 case true=>
  simp only [if_true];refine Ae func164 ntmps164 rfl rfl ?_;refine cS (eA [_,_,_] ?_);intro br bs e U bt bu;revert hP X;refine eE U ?_;intro hP X;refine eK ?_;refine cC rfl (B2 _ _ _ _ Af Ao Af) ?_;rintro _ Y ⟨⟨⟩,⟨bv,g⟩⟩;have Z:=g.size;have e:=e.fr g Aa;clear hP;have X:=X.fr g Aa;refine eK ?_;refine cC rfl (Cs _ _ _ _ Af Ao Af) ?_;rintro _ aa ⟨⟨⟩,⟨ab,l⟩⟩;have ac:=l.size;revert e X;refine eF l ?_;intro e X;refine eK ?_;refine cC rfl (FC _ _ _ Af) ?_;rintro _ ad ⟨⟨⟩,⟨m,o⟩⟩;have ae:=o.size;revert e X;refine eF o ?_;intro e X;refine C1 (xB [_,_,_]) (eS [_,_,_] e ?_);intro af G I ag;revert m X;refine eF I ?_;intro m X;refine eK ?_;refine xC G ?_;exact ⟨rfl,Af,X⟩
 simp only [lj,if_false];cases h3:B1 c.ts σ [97,114,114,97,121]
 case true=>
  simp only [if_true];refine Ae func164 ntmps164 rfl rfl ?_;refine cS (eA [_,_,_] ?_);intro bw bx a V bz b0;revert hP X;refine eE V ?_;intro hP X;refine eK ?_;refine cC rfl (B2 _ _ _ _ Af Ao Af) ?_;rintro _ ah ⟨⟨⟩,⟨b2,h⟩⟩;have ai:=h.size;have a:=a.fr h Aa;clear hP;have X:=X.fr h Aa;refine eK ?_;refine cC rfl (B2 _ _ _ _ Af Ao Af) ?_;rintro _ aj ⟨⟨⟩,⟨ak,p⟩⟩;have al:=p.size;revert a X;refine eF p ?_;intro a X;refine eK ?_;refine cC rfl (Cs _ _ _ _ Af Ao Af) ?_;rintro _ am ⟨⟨⟩,⟨an,q⟩⟩;have ao:=q.size;revert a X;refine eF q ?_;intro a X;refine eK ?_;refine cC rfl (FC _ _ _ Af) ?_;rintro _ ap ⟨⟨⟩,⟨s,t⟩⟩;have aq:=t.size;revert a X;refine eF t ?_;intro a X;refine C1 (xB [_,_,_]) (xA [_,_,_] ?_);intro ar au J;refine eI [_,_,_] J ?_;intro av d L aw ax;revert s a X;refine eE L ?_;intro s a X;refine eK ?_;refine cC rfl (B3 _ _ _ _ Af Ao) ?_;rintro _ ay ⟨⟨⟩,⟨az,i⟩⟩;have a0:=i.size;have d:=d.fr i Aa;revert a X;refine eF i ?_;intro a X;refine eK ?_;refine cC rfl (Sd _ _ _ _ _ Af Ao) ?_;rintro _ a1 ⟨⟨⟩,⟨u,v⟩⟩;have a2:=v.size;revert d a X;refine eF v ?_;intro d a X;refine C1 Pf (eV [_] [_,_,_] d ?_);intro a3 f M a4;revert u a X;refine eF M ?_;intro u a X;refine eK ?_;refine cC rfl (B3 _ _ _ _ Af Ao) ?_;rintro _ a5 ⟨⟨⟩,⟨x,j⟩⟩;have a6:=j.size;have f:=f.fr j Aa;revert a X;refine eF j ?_;intro a X;refine eK ?_;refine eS [_,_,_] a ?_;intro a7 N O a8;revert x f X;refine eF O ?_;intro x f X;refine eK ?_;refine xC N ?_
  exact ⟨rfl,Af,X⟩
 simp only [lj,if_false];refine Ae func164 ntmps164 rfl rfl ?_;refine cS (eA [_,_,_] ?_);intro b3 b4 b W b5 b6;revert hP X;refine eE W ?_;intro hP X;refine eK ?_;refine cC rfl (B2 _ _ _ _ Af Ao Af) ?_;rintro _ a9 ⟨⟨⟩,⟨b7,k⟩⟩;have ba:=k.size;have b:=b.fr k Aa;clear hP;have X:=X.fr k Aa;refine eK ?_;refine cC rfl (B2 _ _ _ _ Af Ao Af) ?_;rintro _ bb ⟨⟨⟩,⟨bc,y⟩⟩;have bd:=y.size;revert b X;refine eF y ?_;intro b X;refine eK ?_;refine cC rfl (B2 _ _ _ _ Af Ao Af) ?_;rintro _ be ⟨⟨⟩,⟨bf,z⟩⟩;have bg:=z.size;revert b X;refine eF z ?_;intro b X;refine eK ?_;refine cC rfl (Ez _ _ _ Af) ?_;rintro _ bh ⟨⟨⟩,⟨A,C⟩⟩;have bi:=C.size;revert b X;refine eF C ?_;intro b X;refine cN (C1 (xB [_,_,_]) (eS [_,_,_] b ?_));intro bj Q R bk;revert A X;refine eF R ?_;intro A X;refine eK ?_;refine xC Q ?_;exact ⟨rfl,Af,X⟩
section
variable {ts:List Tok} {n:Int}
def YG {k:Nat} {σ:PS} (h:σ.at_<=ts.length):Le ts σ (Co ts n k σ).2:=(Ei k).2.2.2.1 σ h
end
section
variable {ts:List Tok} {n:Int}
end
section
variable (ts:List Tok) (n:Int)
end
section
variable {ts:List Tok} {n:Int}
def CB {σ:PS} (h:σ.at_<=ts.length):Le ts σ (Bp ts n σ).2:=by
 unfold Bp;split
 . rename_i f;have h1:=AB (AP h f Ao);exact h1.trans (AO h1.wf)
 . split
   . rename_i f;have h1:=AB (AP h f Ao);exact h1.trans (AO h1.wf)
   . split
     . rename_i f;have h1:=AB (AP h f Ao);have E:=h1.trans (AO (n:=n) h1.wf);have F:=E.trans (As (n:=n) (t:=[91]) E.wf Ao);have L:=F.trans (Gg (n:=n) (a:=1) (b:=16) F.wf);exact L.trans (As L.wf Ao)
     . exact Hu h
end
section
variable (ts:List Tok) (n:Int)
end
section
variable {ts:List Tok} {n:Int}
def FD (k:Nat) : ∀acc σ,σ.at_<=ts.length->Le ts σ (Bi ts n k acc σ).2:=by
 induction k with
 | zero=>intro acc σ h;rw [Bi];exact mp h
 | succ k F=>
  intro acc σ h;rw [Bi];split
  . rename_i L;have h1:=AB (AP h L Ao);simp only;have f:Le ts σ (if acc.length=8/\Cb ts (Ap σ)=true then BE (Ap σ) (Aq ts (Ap σ)).pos 5 else Ap σ):=by
     split
     . exact h1.trans (B6 h1.wf _ _)
     . exact h1
    generalize (if acc.length=8/\Cb ts (Ap σ)=true then BE (Ap σ) (Aq ts (Ap σ)).pos 5 else Ap σ)=τ at *;have E:=f.trans (CB (n:=n) f.wf);exact E.trans (F _ _ E.wf)
  . exact mp h
end
section
variable (ts:List Tok) (n:Int)
end
section
variable {ts:List Tok} {n:Int}
def YH {x:Nd} {off:Int} {σ:PS} (h:σ.at_<=ts.length):Le ts σ (D7 x off σ):=by
 unfold D7;split
 . exact mp h
 . split
   . exact B6 h _ _
   . split
     . exact B6 h _ _
     . exact mp h
end
section
variable (ts:List Tok) (n:Int)
end
section
variable {ts:List Tok} {n:Int}
def Hw {k:Nat} {σ:PS} (h:σ.at_<=ts.length):Le ts σ (EZ ts n k σ).2:=by
 unfold EZ;have h1:=YG (n:=n) (k:=k) h;exact h1.trans (YH h1.wf)
def IC (k:Nat) : ∀acc σ,σ.at_<=ts.length->Le ts σ (Do ts n k acc σ).2:=by
 induction k with
 | zero=>intro acc σ h;rw [Do];exact mp h
 | succ k F=>
  intro acc σ h;rw [Do];split
  . have f:Le ts σ (if acc.length=32 then BE σ (Aq ts σ).pos 5 else σ):=by
     split
     . exact B6 h _ _
     . exact mp h
    have E:=f.trans (CB (n:=n) f.wf);exact E.trans (F _ _ E.wf)
  . exact mp h
def Vq {σ:PS} (h:σ.at_<=ts.length):Lt σ (Bp ts n σ).2:=by
 unfold Bp;split
 . rename_i f;have h1:=AB (AP h f Ao);exact Lt.of_le (ts:=ts) h1 QV
 . split
   . rename_i f;have h1:=AB (AP h f Ao);exact Lt.of_le (ts:=ts) h1 QV
   . split
     . rename_i f;have h1:=AB (AP h f Ao);have E:=h1.trans (AO (n:=n) h1.wf);have F:=E.trans (As (n:=n) (t:=[91]) E.wf Ao);have L:=F.trans (Gg (n:=n) (a:=1) (b:=16) F.wf);exact Lt.of_le (ts:=ts) L D5
     . exact KO
end
section
variable {ts:List Tok} {n:Int}
def G1 (ts:List Tok) (n:Int) (k:Nat) (σ:PS):List VD×PS:=
 if B1 ts σ [41] then ([],Ap σ) else ((Bi ts n k [(Bp ts n σ).1] (Bp ts n σ).2).1,Az ts n (Bi ts n k [(Bp ts n σ).1] (Bp ts n σ).2).2 [41])
def GE {k:Nat} {σ:PS} (h:σ.at_<=ts.length):Le ts σ (G1 ts n k σ).2:=by
 unfold G1;split
 . rename_i E;exact AB (AP h E Ao)
 . have h1:=CB (n:=n) h;have f:=h1.trans (FD (n:=n) k [(Bp ts n σ).1] _ h1.wf);exact f.trans (As f.wf Ao)
def GF {k:Nat} {σ:PS}:Dk ts n k σ=(⟨(A2 ts n (Az ts n σ [112,114,111,99])).1,(G1 ts n k (Az ts n (A2 ts n (Az ts n σ [112,114,111,99])).2 [40])).1,(EZ ts n k (G1 ts n k (Az ts n (A2 ts n (Az ts n σ [112,114,111,99])).2 [40])).2).1⟩,(EZ ts n k (G1 ts n k (Az ts n (A2 ts n (Az ts n σ [112,114,111,99])).2 [40])).2).2):=by
 simp only [Dk,G1]
def Ej {k:Nat} {σ:PS} (h:σ.at_<=ts.length):Le ts σ (Dk ts n k σ).2:=by
 rw [GF];have h1:=As (n:=n) (t:=[112,114,111,99]) h Ao;have f:=h1.trans (AO (n:=n) h1.wf);have E:=f.trans (As (n:=n) (t:=[40]) f.wf Ao);have F:=E.trans (GE (n:=n) (k:=k) E.wf);exact F.trans (Hw F.wf)
def KR {k:Nat} {σ:PS} (h:σ.at_<=ts.length):Lt σ (Dk ts n k σ).2:=by
 rw [GF];have h1:=As (n:=n) (t:=[112,114,111,99]) h Ao;have f:=AO (n:=n) h1.wf;have E:=f.trans (As (n:=n) (t:=[40]) f.wf Ao);have F:=E.trans (GE (n:=n) (k:=k) E.wf);exact Lt.of_lt (D5 (ts:=ts) (n:=n)) (F.trans (Hw F.wf))
def Ek (k:Nat) : ∀acc σ,σ.at_<=ts.length->Le ts σ (B0 ts n k acc σ).2:=by
 induction k with
 | zero=>intro acc σ h;rw [B0];exact mp h
 | succ k F=>
  intro acc σ h;rw [B0];split
  . have f:Le ts σ (if acc.length=64 then BE σ (Aq ts σ).pos 5 else σ):=by
     split
     . exact B6 h _ _
     . exact mp h
    have E:=f.trans (Ej (n:=n) (k:=k) f.wf);exact E.trans (F _ _ E.wf)
  . exact mp h
def Sj {k:Nat} {σ:PS} (h:σ.at_<=ts.length):Le ts σ (BH ts n k σ).2:=by
 unfold BH;have h1:=IC (n:=n) k [] σ h;have f:=h1.trans (Ek (n:=n) k [] _ h1.wf);have E:=f.trans (As (n:=n) (t:=[109,97,105,110]) f.wf Ao);exact E.trans (Hw E.wf)
end
def OwnL.cap {α:Type} {sh:Shape α} {w:wD} {B e:Nat} {a:oA} {len cap:Nat} {xs:List α} (h:OwnL sh w B e (.slice a len cap) xs):xs.length<=cap:=by
 obtain ⟨E,⟨-,h1⟩,-⟩:=h.ex;rcases h1 with ⟨f,L⟩|⟨g,c,F,f,-,-,M,-⟩
 . omega
 . simp only [kT] at f;omega
def VdsR (c:PC) (w:wD) (r:List VD×PS):Ending->wD->Prop:=fun e w'=> ∃a k,e = .returned (.slice a r.1.length k)/\r.1.length<=k/\VDs (fun b=>w.heap.size<=b/\b<w'.heap.size) w' r.1 a/\PP c r.2 w'/\Fr (· = c.pb) w w'
def VdsR.ret {c:PC} {w:wD} {r:List VD×PS} {e:Ending} {w':wD} (h:VdsR c w r e w') : ∃v,e = .returned v:=by
 obtain ⟨_,_,h,-⟩:=h;exact ⟨_,h⟩
def YI (c:PC) (k:Nat) (σ:PS) (w:wD) (hP:PP c σ w) (hk:mS c.ts σ+1<=k) :
 Calls prog 212 #[.pointer (some ⟨c.pb,0,none⟩)] w (VdsR c w (Bi c.ts c.n k [(Bp c.ts c.n σ).1] (Bp c.ts c.n σ).2)):=by
 have X:=mb (· = c.pb) w;have hpb:=hP.pbB;have hB:=hP.B;have hlen:=hP.len;have hd:=BN (CB (n:=c.n) hP.at_);have hmt:mS c.ts σ<=c.ts.length:=by unfold mS;split<;>omega
 refine Ae func212 ntmps212 rfl rfl ?_;refine eK ?_;refine cC rfl (Lx _ _ _ Af) ?_;rintro _ w3 ⟨⟨⟩,⟨h1,f2⟩⟩;have z4:=f2.size;clear hP;have X:=X.fr f2 Aa;refine Au (xS [_,_,_]) rfl ?_ aFh;rintro _ w6 ⟨b5,rfl,n7,t8⟩;have t9:TB _ _ _ _:=t8;have O:=n7.ext;have a8:=n7.pos;have a9:=n7.size;revert h1 X;refine eE O ?_;intro h1 X;refine C1 Pa (cT (Al (Ax ?_)));have hown:=OwnL.lit (sh:=FM) (B:=w.heap.size) (x:=(Bp c.ts c.n σ).1) Af Aa rfl;generalize Bp c.ts c.n σ=D at *;refine AM (ι:=Nat×List VD×Nat×Nat×PS) (fun x=>[(0,.pointer (some ⟨c.pb,0,none⟩)),(3,.slice (some ⟨x.2.2.1,0,none⟩) x.2.1.length x.2.2.2.1)])
  (fun x w'=>PP c x.2.2.2.2 w'/\OwnL FM w' w.heap.size 93 (.slice (some ⟨x.2.2.1,0,none⟩) x.2.1.length x.2.2.2.1) x.2.1/\Fr (· = c.pb) w w'/\w6.heap.size<=w'.heap.size /\
   Bi c.ts c.n k [D.1] D.2=Bi c.ts c.n x.1 x.2.1 x.2.2.2.2/\mS c.ts x.2.2.2.2+1<=x.1/\x.2.1.length+mS c.ts x.2.2.2.2<=1000001) (fun x=>x.1) (k,[D.1],b5,1,D.2) sB
  ⟨h1,hown,X,kv _,rfl,by simp only;omega,by simp only [kf,ki];omega⟩ ?_
 rintro ⟨j,acc,g,cap,σ'⟩ w1 ⟨hP,hown,X,hz,he,hfj,hacc⟩;simp only at hP hown he hfj hacc;rw [he];refine mA (m:=[(0,.pointer (some ⟨c.pb,0,none⟩)),(3,.slice (some ⟨g,0,none⟩) acc.length cap)]) ?_ sB;obtain ⟨j,rfl⟩ : ∃i,j=i+1:=⟨j-1,Aa⟩
 cases hc:B1 c.ts σ' [44]
 case false=>
  rw [show Bi c.ts c.n (j+1) acc σ'=(acc,σ') from by rw [Bi];simp [hc]];refine eK ?_;refine cC rfl (B2 _ _ _ _ Af Ao Af) ?_;rintro _ ba ⟨⟨⟩,⟨bb,v⟩⟩;have bc:=v.size;clear hP;revert hown X;refine eF v ?_;intro hown X;refine eK ?_;refine xR ?_;exact ⟨_,_,rfl,OwnL.cap Af,VDs.lt2 (S:=(w.heap.size <= ·)) (OwnL.vds Af (fun b h=>h)),Af,X⟩
 have hin:=AP hP.at_ hc Ao;have hmn:=Ck hin;by_cases h8:acc.length=8
 . cases hnm:Cb c.ts (Ap σ')
   . have hml:=BN (CB (n:=c.n) (show (Ap σ').at_<=c.ts.length from hin.2));rw [show Bi c.ts c.n (j+1) acc σ'=Bi c.ts c.n j (acc++[(Bp c.ts c.n (Ap σ')).1]) (Bp c.ts c.n (Ap σ')).2 from by rw [Bi];simp [hc,h8,hnm]];refine eK ?_;refine cC rfl (Cs _ _ _ _ Af Ao Af) ?_;rintro _ bd ⟨⟨⟩,⟨y,z⟩⟩;have be:=z.size;clear hP;revert hown X;refine eF z ?_;intro hown X;refine eK ?_;refine cC rfl (Jb _ _ _ Af) ?_;rintro _ bf ⟨⟨⟩,Q⟩;revert y hown X;refine eY Q ?_;intro bg y hown X;refine C1 V0 (cT (F3 rfl Af ?_));refine eK ?_;refine cC rfl (Lx _ _ _ Af) ?_;rintro _ U ⟨⟨⟩,⟨q,A⟩⟩;have V:=A.size;revert hown X;refine eF A ?_;intro hown X;refine Au (xS [_,_,_]) rfl ?_ aFh;rintro _ W ⟨Y,rfl,a,Z⟩;have aa:=a.blk;have C:=a.ext;have ab:=a.pos;have ac:=a.size;revert q hown X;refine eE C ?_;intro q hown X;refine BV (sh:=FM) Ab C9 rfl rfl rfl rfl BD rfl rfl rfl hown (l8 Af) rfl Aa Aa rfl ?_;rintro ad E ae af l;have ag:=l.size;have q:=q.fr l Aa;clear hown;have X:=X.fr l Aa;refine C1 Pa (Ah (Ad ?_));refine Ay (j,acc++[(Bp c.ts c.n (Ap σ')).1],_,_,(Bp c.ts c.n (Ap σ')).2) sB ⟨Af,Af,X,Aa,rfl,by simp only;omega,by simp only [j9,kf,ki];omega⟩ A6
   . have hfl:=B6 (show (Ap σ').at_<=c.ts.length from hin.2) (Aq c.ts (Ap σ')).pos 5;have hml:=BN (hfl.trans (CB (n:=c.n) hfl.wf));rw [show Bi c.ts c.n (j+1) acc σ'=Bi c.ts c.n j (acc++[(Bp c.ts c.n (BE (Ap σ') (Aq c.ts (Ap σ')).pos 5)).1]) (Bp c.ts c.n (BE (Ap σ') (Aq c.ts (Ap σ')).pos 5)).2 from by rw [Bi];simp [hc,h8,hnm]];refine eK ?_;refine cC rfl (Cs _ _ _ _ Af Ao Af) ?_;rintro _ bh ⟨⟨⟩,⟨r,F⟩⟩;have bi:=F.size;clear hP;revert hown X;refine eF F ?_;intro hown X;refine eK ?_;refine cC rfl (Jb _ _ _ Af) ?_;rintro _ bj ⟨⟨⟩,R⟩;revert r hown X;refine eY R ?_;intro bk r hown X;refine C1 V0 (cT (FR rfl Af ?_));refine eK ?_;refine cC rfl (Bf _ _ _ Af) ?_;rintro _ bl ⟨⟨⟩,T⟩;revert r hown X;refine eY T ?_;intro ah r hown X;refine C1 (AU Ab rfl rfl rfl rfl rfl rfl) (cC rfl (GA _ _ _ _ _ Af) ?_);rintro _ ai ⟨⟨⟩,⟨aj,t⟩⟩;have ak:=t.size;revert hown X;refine eF t ?_;intro hown X;refine eK ?_;refine cC rfl (Lx _ _ _ Af) ?_;rintro _ al ⟨⟨⟩,⟨d,u⟩⟩;have am:=u.size;revert hown X;refine eF u ?_;intro hown X;refine Au (xS [_,_,_]) rfl ?_ aFh;rintro _ an ⟨ao,rfl,e,ap⟩;have aq:=e.blk;have G:=e.ext;have ar:=e.pos;have au:=e.size;revert d hown X;refine eE G ?_;intro d hown X;refine BV (sh:=FM) Ab C9 rfl rfl rfl rfl BD rfl rfl rfl hown (l8 Af) rfl Aa Aa rfl ?_
     rintro av I aw ax o;have ay:=o.size;have d:=d.fr o Aa;clear hown;have X:=X.fr o Aa;refine C1 Pa (Ah (Ad ?_));refine Ay (j,acc++[(Bp c.ts c.n (BE (Ap σ') (Aq c.ts (Ap σ')).pos 5)).1],_,_,(Bp c.ts c.n (BE (Ap σ') (Aq c.ts (Ap σ')).pos 5)).2) sB ⟨Af,Af,X,Aa,rfl,by simp only;omega,by simp only [j9,kf,ki];omega⟩ A6
 . have hml:=BN (CB (n:=c.n) (show (Ap σ').at_<=c.ts.length from hin.2));rw [show Bi c.ts c.n (j+1) acc σ'=Bi c.ts c.n j (acc++[(Bp c.ts c.n (Ap σ')).1]) (Bp c.ts c.n (Ap σ')).2 from by rw [Bi];simp [hc,h8]];refine eK ?_;refine cC rfl (Cs _ _ _ _ Af Ao Af) ?_;rintro _ bm ⟨⟨⟩,⟨bn,J⟩⟩;have bo:=J.size;clear hP;revert hown X;refine eF J ?_;intro hown X;refine eK ?_;refine cC rfl (Lx _ _ _ Af) ?_;rintro _ bp ⟨⟨⟩,⟨s,L⟩⟩;have bq:=L.size;revert hown X;refine eF L ?_;intro hown X;refine Au (xS [_,_,_]) rfl ?_ aFh;rintro _ az ⟨br,rfl,f,a0⟩;have a1:=f.blk;have M:=f.ext;have a2:=f.pos;have a3:=f.size;revert s hown X;refine eE M ?_;intro s hown X;refine BV (sh:=FM) Ab C9 rfl rfl rfl rfl BD rfl rfl rfl hown (l8 Af) rfl Aa Aa rfl ?_;rintro a4 N a5 a6 p;have a7:=p.size;have s:=s.fr p Aa;clear hown;have X:=X.fr p Aa;refine C1 Pa (Ah (Ad ?_));refine Ay (j,acc++[(Bp c.ts c.n (Ap σ')).1],_,_,(Bp c.ts c.n (Ap σ')).2) sB ⟨Af,Af,X,Aa,rfl,by simp only;omega,by simp only [j9,kf,ki];omega⟩ A6
def PdR (c:PC) (w:wD) (r:PD×PS):Ending->wD->Prop:=fun e w'=> ∃pa pc ba bc,e = .returned (.agg (r.1.cells pa pc ba bc).toArray)/\r.1.params.length<=pc/\VDs (fun b=>w.heap.size<=b/\b<w'.heap.size) w' r.1.params pa/\r.1.body.sits (fun b=>w.heap.size<=b/\b<w'.heap.size) w' ba/\PP c r.2 w'/\Fr (· = c.pb) w w'
def PdR.ret {c:PC} {w:wD} {r:PD×PS} {e:Ending} {w':wD} (h:PdR c w r e w') : ∃v,e = .returned v:=by
 obtain ⟨_,_,_,_,h,-⟩:=h;exact ⟨_,h⟩
def YJ (c:PC) (k:Nat) (σ:PS) (w:wD) (hP:PP c σ w) (hk:4*mS c.ts σ+8<=k) :
 Calls prog 165 #[.pointer (some ⟨c.pb,0,none⟩)] w (PdR c w (Dk c.ts c.n k σ)):=by
 have X:=mb (· = c.pb) w;have hpb:=hP.pbB;have hB:=hP.B;have hlen:=hP.len;have l1:=As (n:=c.n) (t:=[112,114,111,99]) hP.at_ Ao;have l2:=l1.trans (AO (n:=c.n) l1.wf);have l3:=l2.trans (As (n:=c.n) (t:=[40]) l2.wf Ao);have l4:=l3.trans (GE (n:=c.n) (k:=k) l3.wf);have m3:=BN l3;have m4:=BN l4;rw [GF];generalize hM:A2 c.ts c.n (Az c.ts c.n σ [112,114,111,99])=M at *;have hname : ∀ {w':wD},PP c (Az c.ts c.n σ [112,114,111,99]) w'->Calls prog 210 #[.pointer (some ⟨c.pb,0,none⟩)] w' fun r w''=>r = .returned (str M.1)/\PP c M.2 w''/\Fr (· = c.pb) w' w'':=fun h=>hM▸FC c _ _ h
 clear l1 l2 l3 l4 hM;cases hh:B1 c.ts (Az c.ts c.n M.2 [40]) [41]
 case true=>
  rw [show G1 c.ts c.n k (Az c.ts c.n M.2 [40])=([],Ap (Az c.ts c.n M.2 [40])) from by simp [G1,hh]] at m4 ⊢;simp only at m4 ⊢;refine Ae func165 ntmps165 rfl rfl ?_;refine cS (eA [_,_,_,_,_,_] ?_);intro b1 w2 h5 x6 p7 z8;revert hP X;refine eE x6 ?_;intro hP X;refine eK ?_;refine cC rfl (B3 _ _ _ _ Af Ao) ?_;rintro _ a9 ⟨⟨⟩,⟨h9,C⟩⟩;have ba:=C.size;have h5:=h5.fr C Aa;clear hP;have X:=X.fr C Aa;refine eK ?_;refine cC rfl (hname Af) ?_;rintro _ bb ⟨⟨⟩,⟨E,F⟩⟩;have bc:=F.size;revert h5 X;refine eF F ?_;intro h5 X;refine C1 (xB [_,_,_,_,_,_]) (xA [_,_,_,_,_,_] ?_);intro bd be T;refine eI [_,_,_,_,_,_] T ?_;intro bf g U bg bh;revert E h5 X;refine eE U ?_;intro E h5 X;refine eK ?_;refine cC rfl (B3 _ _ _ _ Af Ao) ?_;rintro _ bi ⟨⟨⟩,⟨bj,D⟩⟩;have bk:=D.size;have g:=g.fr D Aa;revert h5 X;refine eF D ?_;intro h5 X;refine eK ?_;refine cC rfl (Cs _ _ _ _ Af Ao Af) ?_;rintro _ bl ⟨⟨⟩,⟨bm,G⟩⟩;have bn:=G.size;revert g h5 X;refine eF G ?_;intro g h5 X;refine eK ?_;refine eQ rfl (T9 c k _ _ Af Aa) ?_;rintro _ bo ⟨bp,⟨bq,⟨⟨⟩,⟨o,⟨p,I⟩⟩⟩⟩⟩;have br:=I.size;revert g h5 X;refine eF I ?_;intro g h5 X;refine C1 Pf (eV [_,_,_,_] [_,_,_,_,_,_] g ?_);intro bs J V bt;revert o p h5 X;refine eF V ?_;intro o p h5 X;refine eK ?_;refine eS [_,_,_,_,_,_] h5 ?_;intro bu W Y bv;revert J o p X;refine eF Y ?_;intro J o p X;refine eK ?_;refine xC W ?_
  exact ⟨_,_,_,_,rfl,kC _,kj rfl,lY Af (fun b h=>by omega),Af,X⟩
 rw [show G1 c.ts c.n k (Az c.ts c.n M.2 [40])=((Bi c.ts c.n k [(Bp c.ts c.n (Az c.ts c.n M.2 [40])).1] (Bp c.ts c.n (Az c.ts c.n M.2 [40])).2).1,Az c.ts c.n (Bi c.ts c.n k [(Bp c.ts c.n (Az c.ts c.n M.2 [40])).1] (Bp c.ts c.n (Az c.ts c.n M.2 [40])).2).2 [41]) from by simp [G1,hh]] at m4 ⊢;simp only at m4 ⊢;refine Ae func165 ntmps165 rfl rfl ?_;refine cS (eA [_,_,_,_,_,_] ?_);intro bw bx a Z bz b0;revert hP X;refine eE Z ?_;intro hP X;refine eK ?_;refine cC rfl (B3 _ _ _ _ Af Ao) ?_;rintro _ aa ⟨⟨⟩,⟨b2,l⟩⟩;have ab:=l.size;have a:=a.fr l Aa;clear hP;have X:=X.fr l Aa;refine eK ?_;refine cC rfl (hname Af) ?_;rintro _ ac ⟨⟨⟩,⟨q,s⟩⟩;have ad:=s.size;revert a X;refine eF s ?_;intro a X;refine C1 (xB [_,_,_,_,_,_]) (xA [_,_,_,_,_,_] ?_);intro ae af L;refine eI [_,_,_,_,_,_] L ?_;intro ag e N ah ai;revert q a X;refine eE N ?_;intro q a X;refine eK ?_;refine cC rfl (B3 _ _ _ _ Af Ao) ?_;rintro _ aj ⟨⟨⟩,⟨ak,m⟩⟩;have al:=m.size;have e:=e.fr m Aa;revert a X;refine eF m ?_;intro a X;refine eK ?_;refine cC rfl (B2 _ _ _ _ Af Ao Af) ?_;rintro _ am ⟨⟨⟩,⟨an,u⟩⟩;have ao:=u.size;revert e a X;refine eF u ?_;intro e a X;refine eK ?_;refine eQ rfl (YI c k _ _ Af Aa) ?_;rintro _ ap ⟨aq,⟨ar,⟨⟨⟩,⟨au,⟨d,⟨v,x⟩⟩⟩⟩⟩⟩;have av:=x.size;revert e a X
 refine eF x ?_;intro e a X;refine C1 Pf (eV [_] [_,_,_,_,_,_] e ?_);intro aw f O ax;revert d v a X;refine eF O ?_;intro d v a X;refine eK ?_;refine cC rfl (B3 _ _ _ _ Af Ao) ?_;rintro _ ay ⟨⟨⟩,⟨az,y⟩⟩;revert f d;refine eZ y ?_;intro a0 f d;revert a X;refine eF y ?_;intro a X;refine eK ?_;refine eQ rfl (T9 c k _ _ Af Aa) ?_;rintro _ a1 ⟨a2,⟨a3,⟨⟨⟩,⟨i,⟨j,z⟩⟩⟩⟩⟩;have a4:=z.size;revert f d a X;refine eF z ?_;intro f d a X;refine C1 Pf (eV [_,_,_,_] [_,_,_,_,_,_] f ?_);intro a5 A Q a6;revert i j d a X;refine eF Q ?_;intro i j d a X;refine eK ?_;refine eS [_,_,_,_,_,_] a ?_;intro a7 R S a8;revert A i j d X;refine eF S ?_;intro A i j d X;refine eK ?_;refine xC R ?_;exact ⟨_,_,_,_,rfl,Af,VDs.wide Af (fun b h=>by omega),lY Af (fun b h=>by omega),Af,X⟩
def eG (S:nP) (w:wD) (b o:Nat) (p:PD):Prop:= ∃pa pc ba bc,Row w ⟨b,o,none⟩ (p.cells pa pc ba bc)/\VDs S w p.params pa/\p.body.sits S w ba/\p.params.length<=pc
def PDsC (S:nP) (w:wD) (l:List PD) (a:oA):Prop:=Arr S 6 (eG S) w l a
def PDsC.pds {S:nP} {w:wD} {l:List PD} {a:oA} (h:PDsC S w l a):PDs S w l a:=h.mono aFh (fun _ _ _ _ _ ⟨f,pc,ba,bc,h1,h2,h3,_⟩=>⟨f,pc,ba,bc,h1,h2,h3⟩)
def PDsC.ext {S:nP} {w w':wD} {l:List PD} {a:oA} (h:PDsC S w l a) (x:Ext w w'):PDsC S w' l a:=
 h.mono aFh (fun _ _ _ _ _ ⟨f,pc,ba,bc,h1,h2,h3,h4⟩=>⟨f,pc,ba,bc,h1.ext x,h2.ext x,h3.ext x,h4⟩)
instance {S:nP} {w w':wD} {l:List PD} {a:oA}:LfE w w' (PDsC S w l a) (PDsC S w' l a):=⟨fun x h=>Bk.PDsC.ext h x⟩
def PDsC.fr {S T:nP} {w w':wD} {l:List PD} {a:oA} (h:PDsC S w l a) (x:Fr T w w') (f : ∀b,S b -> ¬T b):PDsC S w' l a:=
 h.mono aFh (fun b _ _ _ E ⟨F,pc,ba,bc,h1,h2,h3,h4⟩=>⟨F,pc,ba,bc,h1.fr x (f b E),h2.fr x f,h3.fr x f,h4⟩)
instance {S T:nP} {w w':wD} {l:List PD} {a:oA}:LfF T w w' (PDsC S w l a) (∀b,S b -> ¬T b) (PDsC S w' l a):=⟨fun x s h=>Bk.PDsC.fr h x s⟩
def PDsC.get {S:nP} {w:wD} {l:List PD} {a:oA} (h:PDsC S w l a) (f:l≠[]) : ∃b o,a=some ⟨b,o,none⟩/\S b /\ ∀i p,l[i]? = some p->eG S w b (o+i*6) p:=by
 rcases h with h|⟨b,o,h1,E,F⟩
 . exact absurd h f
 . exact ⟨b,o,h1,E,fun i v L=>F i v L⟩
def PDsC.ltA {S:nP} {w:wD} {l:List PD} {a:oA} (h:PDsC S w l a):PDsC (· < w.heap.size) w l a:=by
 rcases h with h|⟨b,o,h1,Z,f⟩
 . exact kj h
 . cases l with
   | nil=>exact kj rfl
   | cons p r=>
    obtain ⟨E,F,L,M,N,-⟩:=f 0 p rfl;refine kp ⟨b,o,h1,CQ (N.at0 rfl),fun i v O=>?_⟩;obtain ⟨E,F,L,M,U,V,X,Y⟩:=f i v O;exact ⟨E,F,L,M,U,V.lt2.wide (fun _ h=>h.2),I0 _ _ X,Y⟩
def FV:Shape PD where
 sz:=6
 rep:=fun w S p cs=> ∃pa pc ba bc,cs=p.cells pa pc ba bc/\VDs S w p.params pa/\p.body.sits S w ba/\p.params.length<=pc
 len:=fun ⟨_,_,_,_,h,_⟩=>by rw [h];rfl
 one:=fun ⟨_,_,_,_,h,_⟩=>by rw [h];rfl
 mono:=fun ⟨pa,pc,ba,bc,h,h1,h2,h3⟩ hS hc=>⟨pa,pc,ba,bc,h,h1.move hS hc,Nd.sits_mono hS hc _ ba h2,h3⟩
 lt:=fun ⟨pa,pc,ba,bc,h,h1,h2,h3⟩=>⟨pa,pc,ba,bc,h,h1.lt2,Ho _ ba h2,h3⟩
def PDsC.wide {S S':nP} {w:wD} {l:List PD} {a:oA} (h:PDsC S w l a) (f : ∀b,S b->S' b):PDsC S' w l a:=
 h.mono f (fun _ _ _ _ _ ⟨E,pc,ba,bc,h1,h2,h3,h4⟩=>⟨E,pc,ba,bc,h1,h2.wide f,lY h3 f,h4⟩)
def OwnL.pdsC {w:wD} {B e:Nat} {a:oA} {len cap:Nat} {xs:List PD} {S:nP} (h:OwnL FV w B e (.slice a len cap) xs) (E : ∀b,B<=b->S b):PDsC S w xs a:=by
 by_cases L:xs=[]
 . exact kj L
 . obtain ⟨g,M,N,O,f⟩:=h.rows L;simp only [kT] at N;obtain ⟨rfl,-,-⟩:=N;refine kp ⟨g,0,rfl,E g O,fun i x U=>?_⟩;obtain ⟨cs,V,X,Y,Z,bc,rfl,h1,h2,h3⟩:=f i x U;exact ⟨X,Y,Z,bc,by simpa [FV] using V,h1.wide (fun b F=>E b F.1),h2.wide (fun b F=>E b F.1),h3⟩
def PgR (c:PC) (w:wD) (r:PG×PS):Ending->wD->Prop:=fun e w'=> ∃va vc pa pc ma mc,e = .returned (.agg (r.1.cells va vc pa pc ma mc).toArray)/\(r.1.sits (w.heap.size <= ·) w' va pa ma/\PDsC (w.heap.size <= ·) w' r.1.procs pa/\r.1.vars.length<=vc)/\PP c r.2 w'/\Fr (· = c.pb) w w'
def PgR.ret {c:PC} {w:wD} {r:PG×PS} {e:Ending} {w':wD} (h:PgR c w r e w') : ∃v,e = .returned v:=by
 obtain ⟨_,_,_,_,_,_,h,-⟩:=h;exact ⟨_,h⟩
def PDs.wide {S S':nP} {w:wD} {l:List PD} {a:oA} (h:PDs S w l a) (f : ∀b,S b->S' b):PDs S' w l a:=
 h.mono f (fun _ _ _ _ _ ⟨E,pc,ba,bc,h1,h2,h3⟩=>⟨E,pc,ba,bc,h1,h2.wide f,h3.wide f⟩)
def PB (c:PC) (k:Nat) (σ:PS) (w:wD) (hP:PP c σ w) (hk:4*mS c.ts σ+9<=k) :
 Calls prog 114 #[.pointer (some ⟨c.pb,0,none⟩)] w (PgR c w (BH c.ts c.n k σ)):=by
 have X:=mb (· = c.pb) w;have hpb:=hP.pbB;have hB:=hP.B;have hlen:=hP.len;have hat:=hP.at_;have hmt:mS c.ts σ<=c.ts.length:=by unfold mS;split<;>omega
 unfold BH
 (try dsimp only);refine Ae func114 ntmps114 rfl rfl ?_
 refine cS (eA [_,_,_,_,_,_] ?_);intro b1 w2 h5 x6 p7 z8;revert hP X;refine eE x6 ?_;intro hP X;refine cN (eA [_,_,_,_,_,_] ?_);intro b9 bj bk bl eb ec;revert h5 hP X;refine eE bl ?_;intro h5 hP X;refine cT (Al (Ax ?_));refine AM (ι:=Nat×List VD×oA×Nat×PS) (fun _=>[(0,.pointer (some ⟨c.pb,0,none⟩)),(2,.pointer (some ⟨b1,0,none⟩)),(3,.pointer (some ⟨b9,0,none⟩))])
  (fun x w'=>PP c x.2.2.2.2 w'/\Blk w' b9 [.slice x.2.2.1 x.2.1.length x.2.2.2.1,.slice none 0 0,.int .u8 0,.int .i64 0,.string ⟨#[]⟩,.slice none 0 0]/\OwnL FM w' (b9+1) 93 (.slice x.2.2.1 x.2.1.length x.2.2.2.1) x.2.1 /\
   Blk w' b1 [.slice none 0 0,.slice none 0 0,.int .u8 0,.int .i64 0,.string ⟨#[]⟩,.slice none 0 0]/\Fr (· = c.pb) w w'/\bj.heap.size<=w'.heap.size/\Le c.ts σ x.2.2.2.2 /\
   Do c.ts c.n k [] σ=Do c.ts c.n x.1 x.2.1 x.2.2.2.2/\(x.2.2.2.2.err=0->mS c.ts x.2.2.2.2+1<=x.1)/\1<=x.1/\(x.2.2.2.2.err=0->x.2.1.length+mS c.ts x.2.2.2.2<=1000001)) (fun x=>x.1) (k,[],none,0,σ) sB
  ⟨hP,bk,OwnL.nil,h5,X,kv _,mp hat,rfl,fun _=>by simp only;omega,by simp only;omega,fun _=>by simp only [ki];omega⟩ ?_
 rintro ⟨j,acc,a,cap,σ'⟩ w1 ⟨hP,hbn,hown,hbr,X,hz,hle,he,hfj,bm,hacc⟩;simp only at hP hbn hown hle he hfj bm hacc;rw [he];obtain ⟨j,rfl⟩ : ∃i,j=i+1:=⟨j-1,Aa⟩
 cases hc:Cb c.ts σ'
 case true=>
  have hin:In c.ts σ':=by
   simp only [Cb,Bool.or_eq_true] at hc;rcases hc with (h|h)|h<;>exact AP hP.at_ h Ao
  have h0:=hin.1;have bn:=hfj h0;have bo:=hacc h0;have bp:=T6 hin;by_cases h8:acc.length=32
  . rw [show Do c.ts c.n (j+1) acc σ'=Do c.ts c.n j (acc++[(Bp c.ts c.n (BE σ' (Aq c.ts σ').pos 5)).1]) (Bp c.ts c.n (BE σ' (Aq c.ts σ').pos 5)).2 from by rw [Do];simp [hc,h8]];have hfl:=B6 (show σ'.at_<=c.ts.length from hP.at_) (Aq c.ts σ').pos 5;have hdl:=hfl.trans (CB (n:=c.n) hfl.wf);have hdt:Lt σ' (Bp c.ts c.n (BE σ' (Aq c.ts σ').pos 5)).2:=Lt.of_le hfl (Vq hfl.wf);have hdr:=KQ hdl hdt;have r:=hle.trans hdl;refine eK ?_;refine cC rfl (Jb _ _ _ Af) ?_;rintro _ ed ⟨⟨⟩,bq⟩;revert hP hbn hown hbr X;refine eY bq ?_;intro ee hP hbn hown hbr X;refine cT (FR rfl Af ?_);refine eK ?_;refine cC rfl (Bf _ _ _ Af) ?_;rintro _ ef ⟨⟨⟩,br⟩;revert hP hbn hown hbr X;refine eY br ?_;intro eg hP hbn hown hbr X;refine C1 (AU Ab rfl rfl rfl rfl rfl rfl) (cC rfl (GA _ _ _ _ _ Af) ?_);rintro _ ap ⟨⟨⟩,⟨al,aq⟩⟩;have cd:=aq.size;clear hP;revert hbn hown hbr X;refine eF aq ?_;intro hbn hown hbr X;refine cT (AE (fun wz=>Fr (· = c.pb) ap wz) 5 (.pure 0 (.pure 1 (.pure 2 (.fork 3 (.fork 4 .tail .none) .none)))) mixed BD (Ak (Ac (Ak (Ac An)))) ?_);intro ar Z _;have f:(fun wz=>Fr (· = c.pb) ap wz) ar:=mi Z;simp only at f;have bs:=al;have o:=hbn;have Y:=hown;have z:=hbr;revert al hbn hown hbr X;refine eY Z ?_;intro ce al hbn hown hbr X;refine ⟨f,?_⟩;refine Tq rfl Pg (Tq rfl (AA Ab rfl rfl rfl (fun wz hz=>lX (lW o hz (by first|omega|(dsimp only;omega))) rfl)) (Tq rfl Mv ?_));refine tC rfl rfl (Lx _ _ _ Af) ?_;rintro _ cf ⟨⟨⟩,⟨s,J⟩⟩
    have cg:=J.size;have f:=f.fr J Aa;revert hbn hown hbr X;refine eF J ?_;intro hbn hown hbr X;refine ⟨f,?_⟩;refine A1 rfl (xS [_,_,_]) rfl ?_ aFh A9;rintro _ ch ⟨ci,rfl,A,cj⟩;have ck:=A.blk;have au:=A.ext;have cl:=A.pos;have cm:=A.size;revert s f hbn hown hbr X;refine eE au ?_;intro s f hbn hown hbr X;refine ⟨f,?_⟩;refine AI rfl (BV (sh:=FM) Ab C9 rfl rfl rfl rfl BD rfl rfl rfl hown (l8 Af) rfl Aa Aa rfl ?_);rintro cn av co aa L;have cp:=L.size;revert s hbn;refine eF L ?_;intro s hbn;clear hown;revert hbr X;refine eF L ?_;intro hbr X;refine C1 Pg (eV [_] [_,_,_,_,_,_] hbn ?_);intro cq cr aw cs;clear hbn;revert aa s hbr X;refine eF aw ?_;intro aa s hbr X;refine Ah (Ad ?_);refine Ay (j,acc++[(Bp c.ts c.n (BE σ' (Aq c.ts σ').pos 5)).1],some ⟨_,0,none⟩,_,(Bp c.ts c.n (BE σ' (Aq c.ts σ').pos 5)).2) sB ⟨Af,Af,Af,Af,X,Aa,r,rfl,fun e=>by have:=hdr e;simp only;omega,by simp only;omega,fun e=>by have:=hdr e;simp only [j9,kf,ki];omega⟩ A6
  . rw [show Do c.ts c.n (j+1) acc σ'=Do c.ts c.n j (acc++[(Bp c.ts c.n σ').1]) (Bp c.ts c.n σ').2 from by rw [Do];simp [hc,h8]];have hdl:=CB (n:=c.n) hP.at_;have hdr:=KQ hdl (Vq hP.at_);have r:=hle.trans hdl;refine eK ?_;refine cC rfl (Jb _ _ _ Af) ?_;rintro _ ax ⟨⟨⟩,bt⟩;revert hP hbn hown hbr X;refine eY bt ?_;intro eh hP hbn hown hbr X;refine cT (FR rfl Af ?_);refine eK ?_;refine AE (fun wz=>Fr (· = c.pb) ax wz) 5 (.pure 0 (.pure 1 (.pure 2 (.fork 3 (.fork 4 .tail .none) .none)))) mixed BD (Ak (Ac (Ak (Ac An)))) ?_;intro bu ay _;have p:(fun wz=>Fr (· = c.pb) ax wz) bu:=mi ay;simp only at p;have az:=hP;have o:=hbn;have Y:=hown;have z:=hbr;revert hP hbn hown hbr X;refine eY ay ?_;intro ei hP hbn hown hbr X;refine ⟨p,?_⟩;refine Tq rfl Pg (Tq rfl (AA Ab rfl rfl rfl (fun wz hz=>lX (lW o hz (by first|omega|(dsimp only;omega))) rfl)) (Tq rfl Mv ?_));refine tC rfl rfl (Lx _ _ _ Af) ?_;rintro _ ct ⟨⟨⟩,⟨I,M⟩⟩;have cu:=M.size;have p:=p.fr M Aa;clear hP;revert hbn hown hbr X;refine eF M ?_;intro hbn hown hbr X;refine ⟨p,?_⟩;refine A1 rfl (xS [_,_,_]) rfl ?_ aFh A9;rintro _ cv ⟨cw,rfl,C,cx⟩;have cy:=C.blk;have a0:=C.ext;have cz:=C.pos;have c0:=C.size;revert I p hbn hown hbr X;refine eE a0 ?_;intro I p hbn hown hbr X;refine ⟨p,?_⟩;refine AI rfl (BV (sh:=FM) Ab C9 rfl rfl rfl rfl BD rfl rfl rfl hown (l8 Af) rfl Aa Aa rfl ?_);rintro c1 a1 c2 ab N;have c3:=N.size;revert I hbn;refine eF N ?_;intro I hbn;clear hown;revert hbr X;refine eF N ?_;intro hbr X;refine C1 Pg (eV [_] [_,_,_,_,_,_] hbn ?_);intro c4 c5 a2 c6;clear hbn;revert ab I hbr X;refine eF a2 ?_;intro ab I hbr X;refine Ah (Ad ?_)
    refine Ay (j,acc++[(Bp c.ts c.n σ').1],some ⟨_,0,none⟩,_,(Bp c.ts c.n σ').2) sB ⟨Af,Af,Af,Af,X,Aa,r,rfl,fun e=>by have:=hdr e;simp only;omega,by simp only;omega,fun e=>by have:=hdr e;simp only [j9,kf,ki];omega⟩ A6
 rw [show Do c.ts c.n (j+1) acc σ'=(acc,σ') from by rw [Do];simp [hc]];simp only;have hm':=BN hle;have hat':=hP.at_;refine eK ?_;refine cC rfl (Jb _ _ _ Af) ?_;rintro _ O ⟨⟨⟩,bv⟩;revert hP hbn hown hbr X;refine eY bv ?_;intro ej hP hbn hown hbr X;refine cT (F3 rfl Af (DP (AQ (AQ (Bs (Ai (Al (Ax ?_))))))));have hvs:VDs (fun b=>b9<b/\b<O.heap.size) O acc a:=(OwnL.vds (S:=(b9 < ·)) hown (fun b h=>h)).lt2;have hcap:=OwnL.cap hown;clear hown;refine AM (ι:=Nat×List PD×oA×Nat×PS) (fun _=>[(0,.pointer (some ⟨c.pb,0,none⟩)),(2,.pointer (some ⟨b1,0,none⟩)),(3,.pointer (some ⟨b9,0,none⟩))])
  (fun x w'=>PP c x.2.2.2.2 w'/\Blk w' b9 [.slice a acc.length cap,.slice x.2.2.1 x.2.1.length x.2.2.2.1,.int .u8 0,.int .i64 0,.string ⟨#[]⟩,.slice none 0 0]/\OwnL FV w' O.heap.size 90 (.slice x.2.2.1 x.2.1.length x.2.2.2.1) x.2.1/\VDs (fun b=>b9<b/\b<O.heap.size) w' acc a /\
   Blk w' b1 [.slice none 0 0,.slice none 0 0,.int .u8 0,.int .i64 0,.string ⟨#[]⟩,.slice none 0 0]/\Fr (· = c.pb) w w'/\O.heap.size<=w'.heap.size/\Le c.ts σ' x.2.2.2.2 /\
   B0 c.ts c.n k [] σ'=B0 c.ts c.n x.1 x.2.1 x.2.2.2.2/\(x.2.2.2.2.err=0->4*mS c.ts x.2.2.2.2+9<=x.1)/\1<=x.1/\x.1<=k/\(x.2.2.2.2.err=0->x.2.1.length+mS c.ts x.2.2.2.2<=1000001)) (fun x=>x.1) (k,[],none,0,σ') sB
  ⟨hP,hbn,OwnL.nil,hvs,hbr,X,kv _,mp hat',rfl,fun _=>by simp only;omega,by simp only;omega,kv _,fun _=>by simp only [ki];omega⟩ ?_
 rintro ⟨i,pacc,pa,pcap,ρ'⟩ w5 ⟨hP,hbn,d,hvs,hbr,X,ek,y,am,hfi,bw,hik,hpacc⟩;simp only at hP hbn d y am hfi bw hik hpacc;rw [am];clear he hfj hacc am;obtain ⟨i,rfl⟩ : ∃m,i=m+1:=⟨i-1,Aa⟩
 have hob : ∀g,(lm pa pacc.length pcap).ownBlock=some g->g<w5.heap.size:=fun g h=>d.lt h
 by_cases hp:(Aq c.ts ρ').text=[112,114,111,99]
 . have Q:B1 c.ts ρ' [112,114,111,99]=true:=by simp [B1,hp]
   have hin:=AP hP.at_ Q Ao;have h0:=hin.1;have bn:=hfi h0;have bo:=hpacc h0;have bp:=T6 hin;by_cases h8:pacc.length=64
   . rw [show B0 c.ts c.n (i+1) pacc ρ'=B0 c.ts c.n i (pacc++[(Dk c.ts c.n i (BE ρ' (Aq c.ts ρ').pos 5)).1]) (Dk c.ts c.n i (BE ρ' (Aq c.ts ρ').pos 5)).2 from by rw [B0];simp [Q,h8]];have hfl:=B6 (show ρ'.at_<=c.ts.length from hP.at_) (Aq c.ts ρ').pos 5;have hfm:=BN hfl;have hdl:=hfl.trans (Ej (n:=c.n) (k:=i) hfl.wf);have hdr:=KQ hdl (Lt.of_le hfl (KR (n:=c.n) (k:=i) hfl.wf));have r:=y.trans hdl;refine eK ?_;refine cC rfl (Bf _ _ _ Af) ?_;rintro _ el ⟨⟨⟩,bx⟩;revert hP hbn d hvs hbr X;refine eY bx ?_;intro em hP hbn d hvs hbr X;refine C1 (AU Ab rfl rfl rfl rfl rfl rfl) ?_;refine eK ?_;refine cC rfl (Bf _ _ _ Af) ?_;rintro _ en ⟨⟨⟩,bz⟩;revert hP hbn d hvs hbr X;refine eY bz ?_;intro eo hP hbn d hvs hbr X;refine C1 (AU Ab rfl rfl rfl rfl rfl rfl) (cC rfl (GA _ _ _ _ _ Af) ?_);rintro _ a3 ⟨⟨⟩,⟨an,a4⟩⟩;have c7:=a4.size;clear hP;revert hbn d hvs hbr X;refine eF a4 ?_;intro hbn d hvs hbr X;refine cT (AE (fun wz=>Fr (· = c.pb) a3 wz) 5 (.pure 0 (.pure 1 (.pure 2 (.fork 3 (.fork 4 .tail .none) .none)))) mixed BD (Ak (Ac (Ak (Ac An)))) ?_);intro a5 ac _;have l:(fun wz=>Fr (· = c.pb) a3 wz) a5:=mi ac;simp only at l;have b0:=an;have o:=hbn;have R:=d;have ao:=hvs;have z:=hbr;revert an hbn d hvs hbr X;refine eY ac ?_;intro c8 an hbn d hvs hbr X;refine ⟨l,?_⟩;refine Tq rfl Pf (Tq rfl (AA Ab rfl rfl rfl (fun wz hz=>lX (lW o hz (by first|omega|(dsimp only;omega))) rfl)) (Tq rfl Mv ?_));refine tC rfl rfl (YJ c i _ _ Af Aa) ?_
     rintro _ c9 ⟨b2,⟨b3,⟨b4,⟨b5,⟨⟨⟩,⟨da,⟨ad,⟨ae,⟨u,T⟩⟩⟩⟩⟩⟩⟩⟩⟩;have db:=T.size;have l:=l.fr T Aa;revert hbn d hvs hbr X;refine eF T ?_;intro hbn d hvs hbr X;refine ⟨l,?_⟩;refine A1 rfl (xS [_,_,_,_,_,_]) rfl ?_ aFh A9;rintro _ dc ⟨dd,rfl,D,de⟩;have df:=D.blk;have a6:=D.ext;have dg:=D.pos;have dh:=D.size;revert ad ae u l hbn d hvs hbr X;refine eE a6 ?_;intro ad ae u l hbn d hvs hbr X;refine ⟨l,?_⟩;refine AI rfl (BV (sh:=FV) Ab C9 rfl rfl rfl rfl BD rfl rfl rfl d (l8 Af) ⟨_,_,_,_,rfl,VDs.wide Af (fun b h=>⟨Aa,fun e=>by have:=hob _ e;omega⟩),lY Af (fun b h=>⟨Aa,fun e=>by have:=hob _ e;omega⟩),Af⟩ Aa Aa rfl ?_);rintro di a7 dj af U;have dk:=U.size;revert u hbn;refine eF U ?_;intro u hbn;clear d;revert hvs hbr X;refine eF U ?_;intro hvs hbr X;refine C1 Pf (eV [_] [_,_,_,_,_,_] hbn ?_);intro dl dm a8 dn;clear hbn;revert af u hvs hbr X;refine eF a8 ?_;intro af u hvs hbr X;refine Ah (Ad ?_);refine Ay (i,pacc++[(Dk c.ts c.n i (BE ρ' (Aq c.ts ρ').pos 5)).1],some ⟨_,0,none⟩,_,(Dk c.ts c.n i (BE ρ' (Aq c.ts ρ').pos 5)).2) sB ⟨Af,Af,Af,Af,Af,X,Aa,r,rfl,fun e=>by have:=hdr e;simp only;omega,by simp only;omega,by simp only;omega,fun e=>by have:=hdr e;simp only [j9,kf,ki];omega⟩ A6
   . rw [show B0 c.ts c.n (i+1) pacc ρ'=B0 c.ts c.n i (pacc++[(Dk c.ts c.n i ρ').1]) (Dk c.ts c.n i ρ').2 from by rw [B0];simp [Q,h8]];have hdl:=Ej (n:=c.n) (k:=i) hP.at_;have hdr:=KQ hdl (KR (n:=c.n) (k:=i) hP.at_);have r:=y.trans hdl;refine eK ?_;refine cC rfl (Bf _ _ _ Af) ?_;rintro _ a9 ⟨⟨⟩,b6⟩;revert hP hbn d hvs hbr X;refine eY b6 ?_;intro ep hP hbn d hvs hbr X;refine C1 (AU Ab rfl rfl rfl rfl rfl rfl) ?_;refine eK ?_;refine AE (fun wz=>Fr (· = c.pb) a9 wz) 5 (.pure 0 (.pure 1 (.pure 2 (.fork 3 (.fork 4 .tail .none) .none)))) mixed BD (Ak (Ac (Ak (Ac An)))) ?_;intro b7 ba _;have q:(fun wz=>Fr (· = c.pb) a9 wz) b7:=mi ba;simp only at q;have az:=hP;have o:=hbn;have R:=d;have ao:=hvs;have z:=hbr;revert hP hbn d hvs hbr X;refine eY ba ?_;intro eq hP hbn d hvs hbr X;refine ⟨q,?_⟩;refine Tq rfl Pf (Tq rfl (AA Ab rfl rfl rfl (fun wz hz=>lX (lW o hz (by first|omega|(dsimp only;omega))) rfl)) (Tq rfl Mv ?_));refine tC rfl rfl (YJ c i _ _ Af Aa) ?_;rintro _ dp ⟨dq,⟨b8,⟨ca,⟨cb,⟨⟨⟩,⟨dr,⟨ag,⟨ah,⟨v,V⟩⟩⟩⟩⟩⟩⟩⟩⟩;have ds:=V.size;have q:=q.fr V Aa;clear hP;revert hbn d hvs hbr X;refine eF V ?_;intro hbn d hvs hbr X;refine ⟨q,?_⟩;refine A1 rfl (xS [_,_,_,_,_,_]) rfl ?_ aFh A9
     rintro _ dt ⟨du,rfl,E,dv⟩;have dw:=E.blk;have bb:=E.ext;have dx:=E.pos;have dy:=E.size;revert ag ah v q hbn d hvs hbr X;refine eE bb ?_;intro ag ah v q hbn d hvs hbr X;refine ⟨q,?_⟩;refine AI rfl (BV (sh:=FV) Ab C9 rfl rfl rfl rfl BD rfl rfl rfl d (l8 Af) ⟨_,_,_,_,rfl,VDs.wide Af (fun b h=>⟨Aa,fun e=>by have:=hob _ e;omega⟩),lY Af (fun b h=>⟨Aa,fun e=>by have:=hob _ e;omega⟩),Af⟩ Aa Aa rfl ?_);rintro dz bc d0 ai W;have d1:=W.size;revert v hbn;refine eF W ?_;intro v hbn;clear d;revert hvs hbr X;refine eF W ?_;intro hvs hbr X;refine C1 Pf (eV [_] [_,_,_,_,_,_] hbn ?_);intro d2 d3 bd d4;clear hbn;revert ai v hvs hbr X;refine eF bd ?_;intro ai v hvs hbr X;refine Ah (Ad ?_);refine Ay (i,pacc++[(Dk c.ts c.n i ρ').1],some ⟨_,0,none⟩,_,(Dk c.ts c.n i ρ').2) sB ⟨Af,Af,Af,Af,Af,X,Aa,r,rfl,fun e=>by have:=hdr e;simp only;omega,by simp only;omega,by simp only;omega,fun e=>by have:=hdr e;simp only [j9,kf,ki];omega⟩ A6
 . have Q:B1 c.ts ρ' [112,114,111,99]=false:=by simp [B1,hp]
   rw [show B0 c.ts c.n (i+1) pacc ρ'=(pacc,ρ') from by rw [B0];simp [Q]];simp only;have be:=As (n:=c.n) (t:=[109,97,105,110]) y.wf Ao;have er:=BN be;have es:=BN y;refine eK ?_;refine cC rfl (Bf _ _ _ Af) ?_;rintro _ et ⟨⟨⟩,cc⟩;revert hP hbn d hvs hbr X;refine eY cc ?_;intro eu hP hbn d hvs hbr X;refine C1 (AU Ab rfl rfl rfl rfl rfl rfl) ?_;refine eK ?_;refine cC rfl (B3 _ _ _ _ Af Ao) ?_;rintro _ ev ⟨⟨⟩,⟨ew,bf⟩⟩;have ex:=bf.size;clear hP;revert hbn d hvs hbr X;refine eF bf ?_;intro hbn d hvs hbr X;refine eK ?_;refine eQ rfl (T9 c k _ _ Af Aa) ?_;rintro _ d5 ⟨ey,⟨ez,⟨⟨⟩,⟨F,⟨G,aj⟩⟩⟩⟩⟩;have d6:=aj.size;revert hbn d hvs hbr X;refine eF aj ?_;intro hbn d hvs hbr X;refine C1 Pf (eV [_,_,_,_] [_,_,_,_,_,_] hbn ?_);intro d7 ak bg d8;clear hbn;revert F G d hvs hbr X;refine eF bg ?_;intro F G d hvs hbr X;refine eK ?_;refine eS [_,_,_,_,_,_] hbr ?_;intro d9 bh bi ea;clear hbr;revert ak F G d hvs X;refine eF bi ?_;intro ak F G d hvs X;refine eK ?_;refine xC bh ?_;refine ⟨_,_,_,_,_,_,rfl,⟨⟨VDs.wide Af (fun b h=>by omega),PDsC.pds (OwnL.pdsC d (fun b h=>by omega)),lY Af (fun b h=>by omega)⟩,OwnL.pdsC d (fun b h=>by omega),hcap⟩,Af,X⟩
def FN {α:Type} (p:α->Bool) (l:List α):(l.takeWhile p).length<=l.length:=by
 induction l with
 | nil=>simp
 | cons x r f=>simp only [List.takeWhile_cons];split<;>simp;exact f
def Ua (s:lB):FL s<=s.length:=by
 unfold FL;split
 . rename_i h;rw [List.isPrefixOf_iff_prefix] at h;exact h.length_le
 . split
   . rename_i h;rcases s with _|⟨a,_|⟨b,r⟩⟩
     . exact absurd h Ao
     . exfalso;simp [pairs] at h
     . simp
   . split
     . rename_i h;cases s with
       | nil=>simp at h
       | cons a r=>simp
     . omega
def Mc (s:lB):(Ar s).2<=s.length:=by
 cases s with
 | nil=>simp [Ar]
 | cons c r=>
  simp only [Ar,Es];split
  . exact FN _ _
  . split
    . exact FN _ _
    . split
      . exact FN _ _
      . split
        . exact FN _ _
        . exact Ua _
def Nx {α:Type} (p:α->Bool) (l:List α):l.take (l.takeWhile p).length=l.takeWhile p:=by
 induction l with
 | nil=>simp
 | cons x r f=>simp only [List.takeWhile_cons];split<;>simp [f]
def OJ {α:Type} (p:α->Bool) (l:List α) : ∀x∈l.takeWhile p,p x=true:=by
 induction l with
 | nil=>simp
 | cons y r E=>
  simp only [List.takeWhile_cons];split
  . rename_i h;intro x f;rcases kF.1 f with rfl|f
    . exact h
    . exact E x f
  . simp
def KS (c:UInt8) (h:CG c=true):B5 c=false:=by
 simp only [CG,B5,ke,decide_eq_true_eq,Bool.and_eq_false_iff,decide_eq_false_iff_not] at h ⊢;omega
def Q4 (s:lB) (h:(Ar s).1=2):s.take (Ar s).2≠[] /\ ∀x∈s.take (Ar s).2,B5 x=true:=by
 cases s with
 | nil=>simp [Ar] at h
 | cons c r=>
  simp only [Ar] at h ⊢;by_cases h1:CG c=true
  . simp [h1] at h
  . by_cases f:B5 c=true
    . simp only [h1,f,if_true,lj,if_false,Es];rw [Nx];refine ⟨by simp [List.takeWhile_cons,f],OJ _ _⟩
    . exfalso;simp only [h1,f,lj,if_false] at h;by_cases E:Dn c=true
      . simp [E] at h
      . by_cases F:c=35
        . subst F;simp [E] at h
        . simp [E,F] at h
def OK (s:lB) (F:s≠[]) (M:(Ar s).2≠0):(Ar s).1=2↔BW (s.take (Ar s).2)=true:=by
 cases s with
 | nil=>exact absurd rfl F
 | cons c r=>
  obtain ⟨m,L⟩ : ∃m,(Ar (c::r)).2=m+1:=⟨(Ar (c::r)).2-1,Aa⟩;rw [L];simp only [lo,BW,Ar];by_cases h1:CG c=true
  . simp [h1,KS c h1]
  . by_cases h:B5 c=true
    . simp [h1,h]
    . simp only [h1,h,lj,if_false,iff_false];by_cases f:Dn c=true
      . simp [f]
      . by_cases E:c=35
        . subst E;simp [f]
        . simp [f,E]
structure TokOk (n:Nat) (t:Tok):Prop where
 len:t.text.length<=n
 num:t.kind=2->t.text≠[] /\ ∀x∈t.text,B5 x=true
 dig:t.kind=2↔BW t.text=true
 pos:0<=t.pos/\t.pos<=n
def Sm (s:lB) : ∀(k p:Nat) (acc:List Tok),(∀t∈acc,TokOk s.length t) -> ∀t∈(CX k s p acc).1,TokOk s.length t
 | 0,p,acc,h=>by rw [CX];exact h
 | k+1,p,acc,h=>by
  rw [CX];split
  . rename_i N;split
    . simp
    . rename_i L;refine Sm s k _ _ ?_;intro t f;rcases List.mem_append.1 f with f|f
      . exact h t f
      . simp only [lM] at f;subst f;have E:s.drop p≠[]:=by
         intro e;have:=congrArg List.length e;simp at this;omega
        refine ⟨?_,?_,?_,?_⟩
        . simp only [kU,List.length_drop];omega
        . intro M;have F:(Ar (s.drop p)).1=2:=by simp only at M;omega
          exact Q4 _ F
        . have:=OK (s.drop p) E L;simp only;rw [<-this];omega
        . simp only;omega
  . exact h
def bC (s:lB) : ∀t∈(G7 s).1,TokOk s.length t:=by
 unfold G7;split
 . simp
 . have:=Sm s (s.length+1) 0 [] A6;split
   . rename_i l h;rw [h] at this;exact this
   . simp
def KT (s:lB) : ∀t∈(Cp s).1,TokOk s.length t:=fun t f=>bC s t (List.mem_filter.1 f).1
def FE (s:lB):AZ (Cp s).1:=fun t f=>(KT s t f).dig
def PE (s:lB) : ∀(k p:Nat) (acc:List Tok),acc.length<=p->p<=s.length->(CX k s p acc).1.length<=s.length
 | 0,p,acc,h,f=>by rw [CX];simp;omega
 | k+1,p,acc,h,f=>by
  rw [CX];split
  . split
    . simp
    . rename_i E;have:=Mc (s.drop p);rw [List.length_drop] at this;exact PE s k _ _ (by simp;omega) Aa
  . simp only;omega
def Sn (s:lB):(G7 s).1.length<=s.length:=by
 unfold G7;split
 . simp
 . have:=PE s (s.length+1) 0 [] A6 Aa;split
   . rename_i l h;rw [h] at this;exact this
   . simp
def Hx (s:lB):(Cp s).1.length<=s.length:=kW (List.length_filter_le _ _) (Sn s)
def Toks (S:nP) (w:wD) (l:List Tok) (a:oA):Prop:=Arr S 3 Yx w l a
def Toks.ext {S:nP} {w w':wD} {l:List Tok} {a:oA} (h:Toks S w l a) (x:Ext w w'):Toks S w' l a:=h.mono aFh (fun _ _ _ _ _ h=>Row.ext h x)
instance {S:nP} {w w':wD} {l:List Tok} {a:oA}:LfE w w' (Toks S w l a) (Toks S w' l a):=⟨fun x h=>Bk.Toks.ext h x⟩
def Toks.fr {S T:nP} {w w':wD} {l:List Tok} {a:oA} (h:Toks S w l a) (x:Fr T w w') (f : ∀b,S b -> ¬T b):Toks S w' l a:=h.mono aFh (fun b _ _ _ E h=>Row.fr h x (f b E))
instance {S T:nP} {w w':wD} {l:List Tok} {a:oA}:LfF T w w' (Toks S w l a) (∀b,S b -> ¬T b) (Toks S w' l a):=⟨fun x s h=>Bk.Toks.fr h x s⟩
def Toks.wide {S S':nP} {w:wD} {l:List Tok} {a:oA} (h:Toks S w l a) (f : ∀b,S b->S' b):Toks S' w l a:=h.mono f (fun _ _ _ _ _ h=>h)
def Toks.lt2 {S:nP} {w:wD} {l:List Tok} {a:oA} (h:Toks S w l a):Toks (fun b=>S b/\b<w.heap.size) w l a:=by
 rcases h with h|⟨b,o,h1,E,f⟩
 . exact kj h
 . cases l with
   | nil=>exact kj rfl
   | cons v r=>exact kp ⟨b,o,h1,⟨E,CQ (Row.at0 (f 0 v rfl) rfl)⟩,f⟩
def Hy:Shape Tok where
 sz:=3
 rep:=fun _ _ v cs=>cs=v.cells
 len:=fun h=>by rw [h];rfl
 one:=fun h=>by rw [h];rfl
 mono:=fun h _ _=>h
 lt:=fun h=>h
def OwnL.toks {w:wD} {B e:Nat} {a:oA} {len cap:Nat} {xs:List Tok} {S:nP} (h:OwnL Hy w B e (.slice a len cap) xs) (M : ∀b,B<=b->S b):Toks S w xs a:=by
 by_cases E:xs=[]
 . exact kj E
 . obtain ⟨g,F,L,N,f⟩:=h.rows E;simp only [kT] at L;obtain ⟨rfl,-,-⟩:=L;refine kp ⟨g,0,rfl,M g N,fun i x O=>?_⟩;obtain ⟨cs,U,rfl⟩:=f i x O;simpa [Hy,Yx] using U
def Vr (t:lB) (w:wD) (f:t≠[]) (h:t.length<=9223372036854775807):Calls prog 46 #[str t] w fun e w'=>e = .returned (.tuple #[.int .u8 (Ar t).1,.int .i64 (Ar t).2])/\w=w':=by
 cases t with
 | nil=>exact absurd rfl f
 | cons c r=>exact U5 c r w h
def LexR (w:wD) (r:List Tok×Int×Int):Ending->wD->Prop:=fun e w'=> ∃a k,e = .returned (.tuple #[.slice a r.1.length k,.int .i64 r.2.1,.int .i64 r.2.2])/\Toks (fun b=>w.heap.size<=b/\b<w'.heap.size) w' r.1 a/\Ext w w'
def LexR.ret {w:wD} {r:List Tok×Int×Int} {e:Ending} {w':wD} (h:LexR w r e w') : ∃v,e = .returned v:=by
 obtain ⟨_,_,h,-⟩:=h;exact ⟨_,h⟩
def iX (s:lB) (w:wD) (hs:s.length<=1000000):Calls prog 157 #[str s] w (LexR w (G7 s)):=by
 have X:=lN w;by_cases h0:65536<s.length
 . rw [show G7 s=([],0,5) from by simp [G7,h0]];refine Ae func157 ntmps157 rfl rfl ?_;refine eK ?_;refine FI rfl rfl rfl rfl ?_;exact ⟨_,_,rfl,kj rfl,X⟩
 have M : ∀r,CX (s.length+1) s 0 []=r->G7 s=match r with|(l,none)=>(l,0,0)|(_,some p)=>([],(p:Int),3):=fun r hr=>by
  obtain ⟨l,o⟩:=r;cases o<;>simp [G7,h0,hr]
 have HU:=kh M;clear M;refine Ae func157 ntmps157 rfl rfl ?_;refine cS (C1 Pa (C1 Pa (C1 Pa (cT (Al (cS (C1 Mv (C1 Py (C1 V5 (cT (E4 ?_)))))))))));refine Av (Ai (cS (C1 Pa (cT (Al (cS (C1 Pa (cT (Ax ?_)))))))));refine AM (ι:=Nat×Nat×List Tok×oA×Nat) (fun x=>[(0,str s),(5,.slice x.2.2.2.1 x.2.2.1.length x.2.2.2.2),(6,.int .i64 x.2.1)])
  (fun x w'=>OwnL Hy w' w.heap.size 223 (.slice x.2.2.2.1 x.2.2.1.length x.2.2.2.2) x.2.2.1/\Ext w w'/\x.2.1<=s.length/\x.2.2.1.length<=x.2.1/\s.length+1<=x.1+x.2.1 /\
   CX (s.length+1) s 0 []=CX x.1 s x.2.1 x.2.2.1) (fun x=>x.1) (s.length+1,0,[],none,0) sB ⟨OwnL.nil,X,kC _,kv _,kv _,rfl⟩ ?_
 rintro ⟨j,p,acc,a,cap⟩ w1 ⟨f,X,hp,N,hj,V⟩;simp only at f hp N hj V;refine mA (m:=[(0,str s),(5,.slice a acc.length cap),(6,.int .i64 p)]) ?_ sB;obtain ⟨j,rfl⟩ : ∃i,j=i+1:=⟨j-1,Aa⟩
 by_cases L:p<s.length
 . have O:s.drop p≠[]:=by
    intro e;have:=congrArg List.length e;simp at this;omega
   have Y:(s.drop p).length=s.length-p:=List.length_drop;have Z:=Mc (s.drop p);rw [Y] at Z;by_cases hz:(Ar (s.drop p)).2=0
   . rw [HU.out ([],some p) (by rw [V,CX];simp [L,hz])];refine eK ?_;refine C1 (Gq Ab rfl rfl rfl Aa) (cC rfl (Vr _ _ O Aa) ?_);rintro _ ah ⟨⟨⟩,rfl⟩;refine eK ?_;refine FI rfl rfl rfl rfl ?_;exact ⟨_,_,rfl,kj rfl,X⟩
   . have aa:CX (s.length+1) s 0 []=CX j s (p+(Ar (s.drop p)).2) (acc++[⟨((Ar (s.drop p)).1:Nat),(s.drop p).take (Ar (s.drop p)).2,(p:Int)⟩]):=by rw [V,CX];simp [L,hz]
     refine eK ?_;refine C1 (Gq Ab rfl rfl rfl Aa) (cC rfl (Vr _ _ O Aa) ?_);rintro _ ai ⟨⟨⟩,rfl⟩;refine eK ?_;refine C1 (TF Ab rfl rfl rfl rfl Aa) (C1 Mv (C1 (xB [_,_,_]) ?_));refine Au (xS [_,_,_]) rfl ?_ aFh;rintro _ aj ⟨ak,rfl,E,al⟩;have ab:=E.blk;have ac:=E.ext;have am:=E.pos;have an:=E.size;revert f X;refine eE ac ?_;intro f X;refine BV (sh:=Hy) (z:=⟨((Ar (s.drop p)).1:Nat),(s.drop p).take (Ar (s.drop p)).2,(p:Int)⟩) Ab C9 rfl rfl rfl rfl BD rfl rfl rfl f (l8 Af) rfl Aa (by have:=Ext.size X;omega) rfl ?_;rintro ad U ae af F;have ag:=F.size;clear ab f;have X:=X.fr F Aa;refine C1 Pa (cT (Ag (C1 Mv (C1 Mv (C1 V7 (C1 Pa (Ah (Ad ?_))))))));refine Ay (j,p+(Ar (s.drop p)).2,acc++[⟨((Ar (s.drop p)).1:Nat),(s.drop p).take (Ar (s.drop p)).2,(p:Int)⟩],some ⟨_,0,none⟩,_) sB ⟨Af,X,by simp only;omega,by simp only [j9,kf,ki];omega,by simp only;omega,aa⟩ A6
 . rw [HU.out (acc,none) (by rw [V,CX];simp [L])];refine eK ?_;refine FI rfl rfl rfl rfl ?_;exact ⟨_,_,rfl,Toks.lt2 (S:=(w.heap.size <= ·)) (OwnL.toks f (fun b h=>h)),X⟩
def Ub (l:List Tok) (t:Tok):D8 (l++[t])=D8 l++(if t.kind≠4/\t.kind≠5 then [t] else []):=by
 unfold D8;rw [List.filter_append];congr 1;by_cases f:t.kind=4<;>by_cases h:t.kind=5<;>simp [f,h]
def SolidR (w:wD) (r:List Tok):Ending->wD->Prop:=fun e w'=> ∃a k,e = .returned (.slice a r.length k)/\Toks (fun b=>w.heap.size<=b/\b<w'.heap.size) w' r a/\Ext w w'
def SolidR.ret {w:wD} {r:List Tok} {e:Ending} {w':wD} (h:SolidR w r e w') : ∃v,e = .returned v:=by
 obtain ⟨_,_,h,-⟩:=h;exact ⟨_,h⟩
def bD (ts:List Tok) (S:nP) (V:oA) (k0:Nat) (w:wD) (hl:ts.length<=1000000) (F:Toks S w ts V) (hS : ∀b,S b->b<w.heap.size):Calls prog 158 #[.slice V ts.length k0] w (SolidR w (D8 ts)):=by
 have X:=lN w;refine Ae func158 ntmps158 rfl rfl ?_;refine cS (C1 Pa (cN (C1 Pa (cT (Al (cS (C1 Mv (C1 Pz (C1 Mv (cT (Ax ?_)))))))))));refine AM (ι:=Nat×oA×Nat) (fun x=>[(3,.slice x.2.1 (D8 (ts.take x.1)).length x.2.2),(6,.slice V ts.length k0),(7,.int .i64 ts.length),(8,.int .i64 x.1)])
  (fun x w'=>OwnL Hy w' w.heap.size 223 (.slice x.2.1 (D8 (ts.take x.1)).length x.2.2) (D8 (ts.take x.1))/\Ext w w'/\x.1<=ts.length/\Toks S w' ts V) (fun x=>ts.length-x.1) (0,none,0) sB ⟨OwnL.nil,X,kC _,F⟩ ?_
 rintro ⟨j,a,cap⟩ w1 ⟨f,X,hj,F⟩;simp only at f hj F;have ax:=X.size;refine mA (m:=[(3,.slice a (D8 (ts.take j)).length cap),(6,.slice V ts.length k0),(7,.int .i64 ts.length),(8,.int .i64 j)]) ?_ sB;by_cases Y:j<ts.length
 . have Z:ts.take (j+1)=ts.take j++[ts[j]]:=by rw [List.take_add_one,kg Y];rfl
   have E:D8 (ts.take (j+1))=D8 (ts.take j)++(if ts[j].kind≠4/\ts[j].kind≠5 then [ts[j]] else []):=by rw [Z,Ub]
   have ay:(D8 (ts.take j)).length<=1000000:=kW (List.length_filter_le _ _) (by rw [kU];omega);obtain ⟨tb,ae,rfl,af,O⟩:=F.get Aa;have N:Row w1 ⟨tb,ae+j*3,none⟩ ts[j].cells:=O j _ (kg Y);have az:=hS tb af;clear O Z;generalize ts[j]=t at *;by_cases h4:t.kind=4
   . rw [show (if t.kind≠4/\t.kind≠5 then [t] else [])=[] from by simp [h4],ll] at E;refine eK ?_;refine xA [_,_,_] ?_;intro a0 a1 ag;refine eI [_,_,_] ag ?_;intro a2 ah ai a3 a4;revert f X F N;refine eE ai ?_;intro f X F N;refine cN (C1 Pg (C1 (Pl ah) (C1 V2 (C1 Mv (jv (jv (jv (C1 O2 (cT (CT rfl (Av ?_)))))))))));refine Ad (Ai (Ag (C1 V7 (C1 Mv (Ah ?_)))));refine Ay (j+1,a,cap) ?_ ⟨by rw [E];exact f,X,by simp only;omega,F⟩ (by simp only;omega);refine Bj rfl (by rw [E]) sB
   by_cases h5:t.kind=5
   . rw [show (if t.kind≠4/\t.kind≠5 then [t] else [])=[] from by simp [h5],ll] at E;refine eK ?_;refine xA [_,_,_] ?_;intro a5 a6 aj;refine eI [_,_,_] aj ?_;intro a7 aa ak a8 a9;revert f X F N;refine eE ak ?_;intro f X F N;refine cN (C1 Pg (C1 (Pl aa) (C1 V2 (C1 Mv (ju (C1 Pg (ju (C1 (Pl aa) (ju (C1 V2 (C1 ZO ?_)))))))))));refine cT (E4 (Av (Ad (Ai (Ag (C1 V7 (C1 Mv (Ah ?_))))))));refine Ay (j+1,a,cap) ?_ ⟨by rw [E];exact f,X,by simp only;omega,F⟩ (by simp only;omega);refine Bj rfl (by rw [E]) sB
   . rw [show (if t.kind≠4/\t.kind≠5 then [t] else [])=[t] from by simp [h4,h5]] at E;refine eK ?_;refine xA [_,_,_] ?_;intro ba bb al;refine eI [_,_,_] al ?_;intro bc U am bd be;revert f X F N;refine eE am ?_;intro f X F N;refine eK ?_;refine Au (xS [_,_,_]) rfl ?_ aFh;rintro _ an ⟨bf,rfl,L,ao⟩;have ab:=L.blk;have ac:=L.ext;have ap:=L.pos;have aq:=L.size;revert U f X F N;refine eE ac ?_;intro U f X F N;refine BV (sh:=Hy) (z:=t) Ab C9 rfl rfl rfl rfl BD rfl rfl rfl f (l8 Af) rfl Aa Aa rfl ?_;rintro ar ad au av M;have aw:=M.size;clear ab U f;have X:=X.fr M Aa;have F:=Toks.fr F M (fun k hk e=>by have:=hS k hk;omega);have N:=Row.fr N M (by simp only;omega);refine C1 Pa (Ah (Ad (Ai (Ag (C1 V7 (C1 Mv (Ah ?_)))))));refine Ay (j+1,some ⟨_,0,none⟩,_) ?_ ⟨by rw [E];assumption,X,by simp only;omega,F⟩ (by simp only;omega);refine Bj rfl (by rw [E]) sB
 . have:j=ts.length:=by omega
   subst this;rw [kE] at f;refine eK ?_;refine xR ?_;rw [kE];exact ⟨_,_,rfl,Toks.lt2 (S:=(w.heap.size <= ·)) (OwnL.toks f (fun b h=>h)),X⟩
section
variable {P:Program} {n:Nat} {ops:Array Oper} {Q:Exit->Act->wD->Prop} {rest:List Oper} {l:Sl} {w:wD} {tab:Tab} {ty:TypeId} {pos:String} {after:Array Edge}
def WP {x y z:Operand} {t kt e sz1 sz2 r:Nat} {k:lB} {v:Value} {kvs:List (lB×Value)} (T:TabOk P tab) (ht:AC tab t=some (.map kt e,sz1)) (hkt:AC tab kt=some (.str,sz2)) (hx:ev l x=some (.map (some r))) (hy:ev l y=some (str k)) (hz:ev l z=some v) (hm:MapIs w r kvs)
 (kk : ∀w1,MapIs w1 r (MA kvs k v)->Fr (· = r) w w1->LW P n ops Q rest l w1):LW P n ops Q (⟨none,.mapUpdate t x y z,ty,pos,after,none⟩::rest) l w:=by
 refine C8 (K:=fB w r (MA kvs k v)) ?_ (fun v w1 h=>by cases v with|none=>exact kk w1 h.1 h.2.1|some _=>exact h.elim);unfold Ce;intro a dst pos after g next Q ha _ hn;obtain ⟨w1,h1,h2,h3,h4⟩:=OA (P:=P) (k:=k) (v:=v) T ht hkt hm;have e1:(execOp a.eval ⟨dst,.mapUpdate t x y z,ty,pos,after,g⟩).run P w = .ok .skip w1:=by
  simp only [execOp,ha.ev hx,ha.ev hy,ha.ev hz,kB,h1,kn,kJ]
 unfold lJ;rw [e1];exact hn w1 ⟨h2,h3,h4⟩
def Ny {t d:Nat} (h:kH d n=true) (k : ∀r f,r=w.heap.size->MapIs f r []->Ext w f->f.heap.size=r+1->LW P n ops Q rest ((d,.map (some r))::l) f):LW P n ops Q (⟨some d,.makeMap t none,ty,pos,after,none⟩::rest) l w:=
 Au Qs h (fun v f ⟨r,h1,h2,h3,h4,h5⟩=>by subst h1;exact k r f h2 h3 h4 h5) aFh
end
def u8Shape:Shape Int where
 sz:=1
 rep:=fun _ _ v cs=>cs=[.int .u8 v]
 len:=fun h=>by rw [h];rfl
 one:=fun h=>by rw [h];rfl
 mono:=fun h _ _=>h
 lt:=fun h=>h
def Ly (j:Nat):List Int:=(List.range j).map fun (i:Nat)=>(8:Int)+(i:Int)
def WQ (j:Nat):Ly (j+1)=Ly j++[8+(j:Int)]:=by simp [Ly,List.range_succ]
def So (j:Nat):(Ly j).length=j:=by simp [Ly]
def OpsR (w:wD):Ending->wD->Prop:=fun e w'=> ∃b k,e = .returned (.slice (some ⟨b,0,none⟩) 16 k)/\w.heap.size<=b/\b<w'.heap.size/\Row w' ⟨b,0,none⟩ ((Ly 16).map (.int .u8 ·))/\Ext w w'
def OpsR.ret {w:wD} {e:Ending} {w':wD} (h:OpsR w e w') : ∃v,e = .returned v:=by
 obtain ⟨_,_,h,-⟩:=h;exact ⟨_,h⟩
def Sq (w:wD):Calls prog 159 #[] w (OpsR w):=by
 have X:=lN w;refine Ae (args:=[]) func159 ntmps159 rfl rfl ?_;refine cS (C1 Pa (cN (C1 Pa (cT (Al (cS (C1 Pa (cT (Ax ?_)))))))));refine AM (ι:=Nat×oA×Nat) (fun x=>[(1,.slice x.2.1 (Ly x.1).length x.2.2),(2,.int .u8 (8+(x.1:Int)))])
  (fun x w'=>OwnL u8Shape w' w.heap.size 5 (.slice x.2.1 (Ly x.1).length x.2.2) (Ly x.1)/\Ext w w'/\x.1<=16) (fun x=>16-x.1) (0,none,0) sB ⟨OwnL.nil,X,kC _⟩ ?_
 rintro ⟨j,a,cap⟩ w1 ⟨f,X,hj⟩;simp only at f hj;have ab:=X.size;have hl:=So j;refine mA (m:=[(1,.slice a (Ly j).length cap),(2,.int .u8 (8+(j:Int)))]) ?_ sB;by_cases ac:j<16
 . have F:=WQ j;refine eK ?_;refine Au (xS [_]) rfl ?_ aFh;rintro _ ad ⟨ae,rfl,h,af⟩;have O:=h.blk;have U:=h.ext;have ag:=h.pos;have ah:=h.size;revert f X;refine eE U ?_;intro f X;refine BV (sh:=u8Shape) (z:=8+(j:Int)) Ab C9 rfl rfl rfl rfl BD rfl rfl rfl f (l8 Af) rfl Aa Aa rfl ?_;rintro ai L V Y E;have Z:=E.size;clear O f;have X:=X.fr E Aa;refine eK ?_;refine C1 (Ql rfl rfl (Z0 _ Aa Aa)) (C1 Pa (Ah ?_));refine Ay (j+1,some ⟨_,0,none⟩,_) ?_ ⟨by rw [F];assumption,X,by simp only;omega⟩ (by simp only;omega);refine Bj rfl (by rw [F]) (Bj rfl ?_ BB);simp only [Value.int.injEq,true_and];omega
 . have:j=16:=by omega
   subst this;refine eK ?_;refine xR ?_;obtain ⟨g,aa,hv,hg,M⟩:=f.rows Ao;simp only [kT] at hv;obtain ⟨rfl,-,-⟩:=hv;have N:Row w1 ⟨g,0,none⟩ ((Ly 16).map (.int .u8 ·)):=fun i v hi=>by
    rw [List.getElem?_map,Option.map_eq_some_iff] at hi;obtain ⟨x,hx,rfl⟩:=hi;obtain ⟨cs,hr,rfl⟩:=M i x hx;have:=hr.at0 rfl;have e:(⟨g,0,none⟩:Addr).add i=⟨g,i*u8Shape.sz,none⟩:=by
     have:u8Shape.sz=1:=rfl;unfold lA;by_cases h0:i=0<;>simp [h0,this]
    rw [e];exact this
   exact ⟨g,cap,by rw [So],hg,f.lt rfl,N,X⟩
def Sr (c:PC) (σ:PS) (w:wD) (F:PP c σ w) :
 Calls prog 115 #[.pointer (some ⟨c.pb,0,none⟩)] w fun r w'=>r = .returned (.tuple #[])/\PP c (DE c.ts c.n σ) w'/\Fr (· = c.pb) w w':=by
 have X:=mb (· = c.pb) w;have Z:=F.pbB;have hB:=F.B;by_cases h:σ.at_<c.ts.length
 . rw [show DE c.ts c.n σ=Dl c.ts c.n σ from by simp [DE,h]];refine Ae func115 ntmps115 rfl rfl ?_;refine Al (AE (fun E=>Ext w E) 9 (.pure 0 (.pure 1 (.pure 2 (.pure 3 (.pure 4 (.pure 5 (.pure 6 (.pure 7 (.pure 8 .tail))))))))) mixed BD (Ac An) ?_);intro w1 V _;have N:(fun E=>Ext w E) w1:=V;simp only at N;have f:=F;revert F X;refine eY V ?_;intro z4 F X;refine ⟨N,?_⟩;refine eT ?_;refine Tq rfl (AA Ab rfl rfl rfl (fun E M=>lX (l7 (PP.blk f) M) rfl)) ?_;refine eT ?_;refine Tq rfl (AA Ab rfl rfl rfl (fun E M=>lX (l7 (PP.blk f) M) rfl)) (Tq rfl Pz ?_);refine AI rfl ?_;refine eK ?_;refine cC rfl (Ez _ _ _ Af) ?_;rintro _ w7 ⟨⟨⟩,⟨h5,Y⟩⟩;have z8:=Y.size;clear F;have X:=X.fr Y Aa;refine Ah (Bt rfl ?_);exact ⟨rfl,Af,X⟩
 . rw [show DE c.ts c.n σ=σ from by simp [DE,h]];refine Ae func115 ntmps115 rfl rfl ?_;refine Al (AE (fun E=>Ext w E) 9 (.pure 0 (.pure 1 (.pure 2 (.pure 3 (.pure 4 (.pure 5 (.pure 6 (.pure 7 (.pure 8 .tail))))))))) mixed BD (Ac An) ?_);intro U O _;have L:(fun E=>Ext w E) U:=O;simp only at L;have f:=F;revert F X;refine eY O ?_;intro aa F X;refine ⟨L,?_⟩;refine eT ?_;refine Tq rfl (AA Ab rfl rfl rfl (fun E M=>lX (l7 (PP.blk f) M) rfl)) ?_;refine eT ?_;refine Tq rfl (AA Ab rfl rfl rfl (fun E M=>lX (l7 (PP.blk f) M) rfl)) (Tq rfl Pz ?_);refine AI rfl (C1 V3 (cT (E4 (Av (Bt rfl ?_)))));exact ⟨rfl,Af,X⟩
def YK (j:Nat) (h:j<16):MA (binMap.take j) (Cl (8+(j:Int))) (.int .u8 (8+(j:Int)))=binMap.take (j+1):=by
 have:j=0\/j=1\/j=2\/j=3\/j=4\/j=5\/j=6\/j=7\/j=8\/j=9\/j=10\/j=11\/j=12\/j=13\/j=14\/j=15:=by omega
 rcases this with rfl|rfl|rfl|rfl|rfl|rfl|rfl|rfl|rfl|rfl|rfl|rfl|rfl|rfl|rfl|rfl<;>rfl
def StartR (s:lB) (w:wD):Ending->wD->Prop:=fun e w'=> ∃c:PC,e = .returned (.pointer (some ⟨c.pb,0,none⟩))/\(c.ts=(Cp s).1/\c.n=s.length/\w.heap.size<=c.pb)/\PP c (Cp s).2 w'/\Ext w w'/\c.B<=w'.heap.size
def StartR.ret {s:lB} {w:wD} {e:Ending} {w':wD} (h:StartR s w e w') : ∃v,e = .returned v:=by
 obtain ⟨_,h,-⟩:=h;exact ⟨_,h⟩
def Syms.lt {w:wD} (h:Syms w):1<w.heap.size:=CQ (h.sym 0 Aa)
def Errs.lt {w:wD} (h:Errs w):4<w.heap.size:=by
 obtain ⟨f,E,h⟩:=h.ex;exact CQ h
def bE (s:lB) (w:wD) (hs:s.length<=1000000) (F:Syms w) (E:Errs w):Calls prog 113 #[str s] w (StartR s w):=by
 have X:=lN w;have ax:=F.lt;have ay:=E.lt;have az:=Sn s;refine Ae func113 ntmps113 rfl rfl ?_;refine eK ?_;refine eQ rfl (iX _ _ Aa) ?_;rintro _ w5 ⟨a1,⟨k2,⟨⟨⟩,⟨O,x4⟩⟩⟩⟩;revert F E X;refine eY x4 ?_;intro z6 F E X;refine eK ?_;refine eQ rfl (bD _ _ _ _ _ Aa Af (by intro b h;exact h.2)) ?_;rintro _ ae ⟨a7,⟨k8,⟨⟨⟩,⟨U,af⟩⟩⟩⟩;revert O F E X;refine eY af ?_;intro a0 O F E X;refine C1 Mv (C1 Py (Ny rfl ?_));rintro a2 a3 rfl L ag a4;revert U O F E X;refine eY ag ?_;intro a5 U O F E X;refine eK ?_;refine C1 (xB [_,_,_,_,_,_]) (eB [_,_,_,_,_,_] ?_);intro V a6 Y ah a8 a9;revert L U O F E X;refine eE ah ?_;intro L U O F E X;refine eK ?_;refine eQ rfl (Sq _) ?_;rintro _ ai ⟨Z,⟨aj,⟨⟨⟩,⟨ba,⟨bb,⟨ak,al⟩⟩⟩⟩⟩⟩;revert Y L U O F E X;refine eY al ?_;intro bc Y L U O F E X;refine C1 Pz (C1 Mv (cT (Ax ?_)));generalize hr:ae.heap.size=r at *;refine AM (ι:=Nat) (fun j=>[(6,.pointer (some ⟨V,0,none⟩)),(24,.slice (some ⟨Z,0,none⟩) 16 aj),(25,.int .i64 16),(26,.int .i64 j)])
  (fun j w'=>j<=16/\MapIs w' r (binMap.take j)/\Row w' ⟨Z,0,none⟩ ((Ly 16).map (.int .u8 ·))/\Blk w' V [.slice a7 (D8 (G7 s).1).length k8,.int .i64 0,.int .i64 s.length,.map (some r),.int .i64 (G7 s).2.1,.int .i64 (G7 s).2.2] /\
   Toks (fun b=>w5.heap.size<=b/\b<r) w' (D8 (G7 s).1) a7/\Syms w'/\Errs w'/\Ext w w'/\ai.heap.size<=w'.heap.size) (fun j=>16-j) 0 sB ⟨kC _,L,ak,Y,U,F,E,X,kv _⟩ ?_
 rintro j w1 ⟨hj,hM,f,hb,hT,F,E,X,hz⟩;by_cases am:j<16
 . have M:Row w1 ⟨Z,0+j*1,none⟩ [.int .u8 (8+(j:Int))]:=by
    have h1:=f.sub j 1;have e:(((Ly 16).map (.int .u8 ·)).drop j).take 1=[Value.int .u8 (8+(j:Int))]:=by
     have:j=0\/j=1\/j=2\/j=3\/j=4\/j=5\/j=6\/j=7\/j=8\/j=9\/j=10\/j=11\/j=12\/j=13\/j=14\/j=15:=by omega
     rcases this with rfl|rfl|rfl|rfl|rfl|rfl|rfl|rfl|rfl|rfl|rfl|rfl|rfl|rfl|rfl|rfl<;>rfl
    rw [e] at h1;rw [Nat.mul_one];exact h1
   have aa:=YK j am;refine eK ?_;refine AE (fun wz=>Ext w1 wz) 7 (.pure 0 (.pure 1 (.pure 2 (.pure 3 (.pure 4 (.pure 6 (.fork 5 .tail .none))))))) mixed BD (Ak (Ac (Ac (Ak (Ac An))))) ?_;intro an ab _;have N:(fun wz=>Ext w1 wz) an:=ab;simp only at N;have ap:=hM;have ad:=f;have aq:=hb;have ar:=hT;have au:=F;have av:=E;have ao:=M;revert hM f hb hT F E X M;refine eY ab ?_;intro bd hM f hb hT F E X M;refine ⟨N,?_⟩;refine eT ?_;refine tC rfl rfl (IZ _ _ Aa Aa Af) ?_;rintro _ be ⟨⟨⟩,rfl⟩;refine ⟨N,?_⟩;refine AI rfl (WP Ab rfl rfl rfl rfl rfl hM ?_);rintro bf bg ac;have aw:=ac.size;clear hM;revert f hb hT F E X M;refine eF ac ?_;intro f hb hT F E X M;refine Ah (Ad (Ai (Ag (C1 V7 (C1 Mv (Ah ?_))))));refine Ay (j+1) sB ⟨Aa,by rw [<-aa];assumption,f,hb,hT,F,E,X,Aa⟩ Aa
 . have:j=16:=by omega
   subst this;refine eK ?_;refine xR ?_;have bh:=X.size;refine ⟨⟨V,w1.heap.size,D8 (G7 s).1,s.length,a7,k8,r⟩,rfl,⟨rfl,rfl,by simp only;omega⟩,?_,X,kv _⟩;refine ⟨hb,hT.wide (fun b h=>⟨by simp only;omega,by simp only;omega⟩),hM,by simp only;omega,by simp only;omega,by simp only;omega,kv _,kC _,?_,fun t ht=>?_,fun t ht=>(KT s t ht).num,E,by simp only;omega⟩
   . exact kW (Hx s) hs
   . exact kW (KT s t ht).len hs
def bF {c:PC} {s:lB} (h:c.ts=(Cp s).1) (σ:PS):4*mS c.ts σ+20<=Gt s:=by
 have h1:=Hx s;have f:mS c.ts σ<=c.ts.length:=by unfold mS;split<;>omega
 rw [h] at f;unfold Gt;rw [h];omega
def ParsePRC (w:wD) (r:PG×Int×Int):Ending->wD->Prop:=fun e w'=> ∃va vc pa pc ma mc,e = .returned (.tuple #[.agg (r.1.cells va vc pa pc ma mc).toArray,.int .i64 r.2.1,.int .i64 r.2.2])/\r.1.sits (w.heap.size <= ·) w' va pa ma/\PDsC (w.heap.size <= ·) w' r.1.procs pa/\r.1.vars.length<=vc/\Ext w w'
def ParsePRC.ret {w:wD} {r:PG×Int×Int} {e:Ending} {w':wD} (h:ParsePRC w r e w') : ∃v,e = .returned v:=by
 obtain ⟨_,_,_,_,_,_,h,-⟩:=h;exact ⟨_,h⟩
def PG.sits.wide {S S':nP} {w:wD} {g:PG} {E F L:oA} (h:g.sits S w E F L) (f : ∀b,S b->S' b):g.sits S' w E F L:=⟨h.vars.wide f,h.procs.wide f,h.main.wide f⟩
section
variable {ts:List Tok} {n:Int}
end
def Uc (s:lB) (w:wD) (hs:s.length<=1000000) (hS:Syms w) (hE:Errs w):Calls prog 72 #[str s] w (ParsePRC w (A8 s)):=by
 have X:=lN w;refine Ae func72 ntmps72 rfl rfl ?_;refine cS (eA [_,_,_,_,_,_] ?_);intro b1 w2 F x6 p7 z8;revert hS hE X;refine eE x6 ?_;intro hS hE X;refine eK ?_;refine eQ rfl (bE s _ hs Af Af) ?_;rintro _ b5 ⟨c9,⟨⟨⟩,⟨⟨ak,⟨ax,b6⟩⟩,⟨ac,⟨ay,b7⟩⟩⟩⟩⟩;revert F hS hE X;refine eY ay ?_;intro b8 F hS hE X;refine C1 Pa (cN (C1 Mv ?_));have hf:=bF ak (Cp s).2;have b9:=ac.at_;have a2:=ac.len;have ca:=ac.pbB;have hB:=ac.B;have az:A8 s=if (DE c9.ts c9.n (BH c9.ts c9.n (Gt s) (Cp s).2).2).err≠0 then (⟨[],[],BR⟩,(DE c9.ts c9.n (BH c9.ts c9.n (Gt s) (Cp s).2).2).off,(DE c9.ts c9.n (BH c9.ts c9.n (Gt s) (Cp s).2).2).err) else ((BH c9.ts c9.n (Gt s) (Cp s).2).1,0,0):=by
  unfold A8;rw [ak,ax]
 rw [az];by_cases he:(DE c9.ts c9.n (BH c9.ts c9.n (Gt s) (Cp s).2).2).err=0
 . rw [At (fun h=>h he)];refine eQ rfl (PB c9 (Gt s) _ _ Af Aa) ?_;rintro _ a3 ⟨a4,⟨a5,⟨a6,⟨a7,⟨a8,⟨a9,⟨⟨⟩,⟨⟨V,⟨Y,cb⟩⟩,⟨ad,Z⟩⟩⟩⟩⟩⟩⟩⟩⟩;have ba:=Z.size;have F:=F.fr Z Aa;clear hS hE;have X:=X.fr Z Aa;refine xA [_,_,_,_,_,_] ?_;intro bb bc al;refine eI [_,_,_,_,_,_] al ?_;intro bd N am be bf;revert V Y ad F X;refine eE am ?_;intro V Y ad F X;refine eK ?_;refine cC rfl (Sr _ _ _ Af) ?_;rintro _ bg ⟨⟨⟩,⟨an,ae⟩⟩;revert N V Y;refine eZ ae ?_;intro bh N V Y;revert F X;refine eF ae ?_;intro F X;refine cT (Al (cS (C1 Mv (C1 Pn (C1 Pf (C1 (Pl (PP.blk an)) ?_))))));refine eK ?_;refine eS [_,_,_,_,_,_] F ?_;intro bi ao ap bj;revert N V Y X;refine eF ap ?_;intro N V Y X;refine eK ?_;refine Dc rfl Ab rfl rfl rfl ao rfl rfl rfl ?_;exact ⟨_,_,_,_,_,_,rfl,PG.sits.wide Af (fun b h=>by omega),PDsC.wide Af (fun b h=>by omega),Af,X⟩
 . rw [AH he];refine eQ rfl (PB c9 (Gt s) _ _ Af Aa) ?_;rintro _ bk ⟨bm,⟨bn,⟨bo,⟨bp,⟨bq,⟨br,⟨⟨⟩,⟨⟨L,⟨M,cc⟩⟩,⟨af,aa⟩⟩⟩⟩⟩⟩⟩⟩⟩;have bs:=aa.size;have F:=F.fr aa Aa;clear hS hE;have X:=X.fr aa Aa;refine xA [_,_,_,_,_,_] ?_;intro bt bu aq;refine eI [_,_,_,_,_,_] aq ?_;intro bv f ar bw bx;revert L M af F X;refine eE ar ?_;intro L M af F X;refine eK ?_;refine cC rfl (Sr _ _ _ Af) ?_;rintro _ ag ⟨⟨⟩,⟨O,ah⟩⟩;revert f L M;refine eZ ah ?_;intro bz f L M;revert F X;refine eF ah ?_;intro F X;refine cT (Al (cS (C1 Mv (C1 Pn (C1 Pf (C1 (Pl (PP.blk O)) ?_))))));refine eK ?_;refine AE (fun wz=>Fr (fun x=>x=b1) ag wz) 11 (.pure 0 (.pure 1 (.pure 2 (.pure 3 (.pure 4 (.pure 5 (.pure 6 (.pure 7 (.pure 8 (.fork 9 (.pure 10 .tail) .none)))))))))) mixed BD (Ac (Ac An)) ?_;intro au ai _;have E:(fun wz=>Fr (fun x=>x=b1) ag wz) au:=mi ai;simp only at E;have U:=O;have aw:=f;have a0:=L;have a1:=M;have b0:=F;revert O f L M F X;refine eY ai ?_;intro b2 O f L M F X;refine ⟨E,?_⟩;refine Tq rfl (xB [_,_,_,_,_,_]) ?_;refine eT ?_;refine Tq rfl (AA Ab rfl rfl rfl (fun wz hz=>lX (lW (PP.blk U) hz (by first|omega|(dsimp only;omega))) rfl)) ?_;refine eT ?_;refine Tq rfl (AA Ab rfl rfl rfl (fun wz hz=>lX (lW (PP.blk U) hz (by first|omega|(dsimp only;omega))) rfl)) ?_;refine Ks [_,_,_,_,_,_] [_,_,_,_,_,_] rfl Ab rfl rfl rfl rfl rfl rfl F rfl rfl ?_ A9;intro b3 ab;have av:=ab.blk;have aj:=ab.fr;have b4:=ab.size;have E:=E.fr aj Aa;revert f L M X;refine eF aj ?_;intro f L M X;refine ⟨E,?_⟩;refine Tq rfl Pa ?_;refine AI rfl ?_;refine eK ?_;refine Dc rfl Ab rfl rfl rfl av rfl rfl rfl ?_
   exact ⟨_,_,_,_,_,_,rfl,⟨kj rfl,kj rfl,Dp⟩,kj rfl,kC _,X⟩
def GG {P:Program} {n:Nat} {l:Sl} {tab:Tab} {sz:Nat} {w:wD} {fn:Func} {R:Ending->wD->Prop} {L f b s:Nat} {N:Sk} {vs:lV} {v3:Value} (h:fn.results = #[.cell L f,.tmp s]) (T:TabOk P tab) (O:AC tab f=some (N,sz)) (U:N.agg=true) (V:CL l L=some (.pointer (some ⟨b,0,none⟩))) (X:Blk w b vs) (Y:vs.length=sz)
 (Z:CL l s=some v3) (hR:R (.returned (.tuple #[.agg vs.toArray,v3])) w):QW n (bodyPost P fn R) .ret l w:=by
 unfold QW;intro a M;refine ⟨M.defers,.tuple #[.agg vs.toArray,v3],?_,hR⟩;have e:(loadVar f ⟨b,0,none⟩).run P w = .ok (.agg vs.toArray) w:=by
  simp only [kB,kJ,kn,loadVar,En (T _ _ _ O),U,if_true,Dv (T _ _ _ O)];rw [<-Y,E8 X.row]
 have E:=M.has L _ V;have F:=M.has s _ Z;simp only [Array.getD_eq_getD_getElem?] at E F;simp [results,h,E,F,e,asAddr]
def YL (q:Bool) (t:Nd) (f:t.size<=1000000) (h:t.isStmt=true\/t.isBlock=true) (S:nP) (a:oA) (c:Nat) (w:wD) (E:t.sits S w a):Calls prog 96 #[t.val a c,.bool q] w (CopyR (t.inv q) w):=Yk q (t.size+1) t S a c w Aa f h E
def fX:VD:=⟨[],0,0⟩
def Ud {l:List VD} {j:Nat} (h:j<l.length) (s:lB):GX (l.take (j+1)) s=if l[j].name=s then some l[j] else GX (l.take j) s:=by
 unfold GX;rw [ky h,List.reverse_append,List.reverse_singleton,List.singleton_append,List.find?_cons];by_cases f:l[j].name=s
 . simp [f]
 . simp [f]
def VDs.get {S:nP} {w:wD} {l:List VD} {a:oA} (h:VDs S w l a) (f:l≠[]) : ∃b o,a=some ⟨b,o,none⟩/\S b /\ ∀i v,l[i]? = some v->Row w ⟨b,o+i*3,none⟩ v.cells:=by
 rcases h with h|⟨b,o,h1,E,F⟩
 . exact absurd h f
 . exact ⟨b,o,h1,E,fun i v L=>F i v L⟩
def VDs.ltV {S:nP} {w:wD} {l:List VD} {a:oA} (h:VDs S w l a):VDs (· < w.heap.size) w l a:=h.lt2.wide fun _ h=>h.2
def Ue (l:List VD) (hl:l.length<=1000000) (s:lB) (S:nP) (a:oA) (c:Nat) (w:wD) (f:VDs S w l a) :
 Calls prog 130 #[.slice a l.length c,str s] w fun e w'=>e = .returned (.tuple #[((GX l s).getD fX).val,.bool (GX l s).isSome])/\Ext w w':=by
 have X:=lN w;have f:=f.ltV;refine Ae func130 ntmps130 rfl rfl ?_;refine cS (eA [_,_,_] ?_);intro Y w2 Z x6 p7 z8;revert X f;refine eE x6 ?_;intro X f;refine eK ?_;refine C1 (CM rfl rfl (kN _ Aa)) (C1 Pa (cT ?_));refine Ax ?_;refine AM (ι:=Nat) (fun j=>[(0,.slice a l.length c),(1,str s),(4,.pointer (some ⟨Y,0,none⟩)),(6,.int .i64 ((j:Int)-1))])
  (fun j w'=>j<=l.length/\VDs (· < w.heap.size) w' l a/\Blk w' Y [.string ⟨#[]⟩,.int .u8 0,.int .i64 0]/\Ext w w'/\GX l s=GX (l.take j) s)
  (fun j=>j) l.length sB ⟨kv _,f,Z,X,by rw [kE]⟩ ?_
 clear f Z X;rintro j w1 ⟨hj,f,L,X,E⟩;cases j with
 | zero=>
  have e0:GX l s=none:=by rw [E];rfl
  rw [e0];refine eK ?_;refine C1 (xB [_,_,_]) (eS [_,_,_] L ?_);intro aa ab N ac;clear L;revert f X;refine eF N ?_;intro f X;refine C1 Pa (cT (BO ?_));refine GG rfl Ab rfl rfl rfl Af rfl rfl ?_;exact ⟨rfl,X⟩
 | succ j=>
  have F:j<l.length:=by omega
  obtain ⟨kb,ko,rfl,kS,h⟩:=f.get (by intro e;subst e;simp at F);have M:=h j l[j] (kg F);have hn:=Ud F s;rw [hn] at E;clear h hn;generalize l[j]=v at *;have O:(((j+1:Nat):Int)-1)=(j:Int):=by omega
  obtain ⟨vn,vk,vl⟩:=v;replace M:Row w1 ⟨kb,ko+j*3,none⟩ [str vn,.int .u8 vk,.int .i64 vl]:=M;dsimp only at E;rw [O]
  focus
   refine eK ?_;refine AF rfl (fun U=>?_) (fun U=>?_);refine eK ?_;refine eS [_,_,_] L ?_;intro ad ae V af;clear L;revert X f M;refine eF V ?_;intro X f M;refine C1 Pa (cT (BO (AV (AL (AL (AV (AL ?_)))))));rotate_left;refine eK ?_;refine C1 (CM rfl rfl (kN _ Aa)) (C1 Pa (Ah ?_));rotate_left
  . refine GG rfl Ab rfl rfl rfl Af rfl rfl ?_;rw [AH Af] at E;rw [E];exact ⟨rfl,X⟩
  . rw [At Af] at E;exact Ay j sB ⟨Aa,f,L,X,E⟩ Aa
section
variable {P:Program} {n:Nat} {l:Sl} {S:wD->Prop} {tab:Tab} {zt:E9} {ty:TypeId} {w:wD}
def Ss {x y z:Operand} {t e E sz len cap:Nat} {sE:Sk} {a:oA} {k F:IntKind} (T:TabOk P tab) (U:AC tab t=some (.slice e,E)) (V:AC tab e=some (sE,sz)) (X:ev l x=some (.slice a len cap)) (Y:ev l y=some (.int k (len:Int))) (Z:ev l z=some (.int F (len:Int))) (hm:len<=cap) :
 BA P n l S (.slice t x none (some y) (some z)) ty (.slice a len len):=by
 unfold BA;intro aa w ab pos after g L _;have N:P.underlying t=some (.slice e):=(T _ _ _ U).under;have f:P.elem t=e:=by simp [Program.elem,N]
 have h:P.underlying t=some (.slice (P.elem t)):=by rw [f];exact N
 obtain ⟨i,hi,hs⟩:=(T _ _ _ V).info;have M:(Go.sizeOf e).run P w = .ok sz w:=by simp [Go.sizeOf,typeInfo,program,Sem.run,bind,Sem.bind,pure,hi,hs]
 have h1:(Instr.sliceAt t (.slice a len cap) none (some (.int k (len:Int))) (some (.int F (len:Int)))).run P w = .ok (.slice a len len) w:=by
  rw [run_sliceAt_slice w t _ _ _ _ h,run_slice_hm w t a len cap h k F len len Aa Aa Aa];rw [f,M];simp only [kn,sliced,Int.toNat_natCast,Nat.sub_zero,Nat.zero_mul];by_cases O:len=0
  . rw [AH O]
  . rw [At O];cases a<;>simp [lA]
 simp [execOp,L.ev X,L.ev Y,L.ev Z,kB,h1,kn]
def DJ {x y:Operand} {t e sz1 sz m cap:Nat} {sE:Sk} {zs:lV} {a:oA} {p:Addr} {cs us:lV} {R:nP} (T:TabOk P tab) (Z:CU P zt) (ht:AC tab t=some (.slice e,sz1)) (hE:AC tab e=some (sE,sz)) (hz:Dj zt e=some zs) (hzl:zs.length=sz)
 (hby:DQ P e=true) (hsz:kH 0 sz=true) (hx:ev l x=some (.slice a m m)) (hy:ev l y=some (.slice (some p) 1 cap)) (hs:Rows R w cs a) (hcl:cs.length=m*sz) (hr:Row w p us) (hul:us.length=1*sz) (hu:us.all Value.one=true) (hm:m<=1000000000) :
 Ce P n l (.call ⟨.builtin .append,#[x,y],#[t,t]⟩) ty w (IX fun o w'=> ∃g cap',o = .slice (some ⟨g,0,none⟩) (m+1) cap'/\m+1<=cap'/\Row w' ⟨g,0,none⟩ (cs++us)/\w.heap.size<=g/\g<w'.heap.size/\Ext w w'):=by
 obtain ⟨i,v0,z1,z2,z3⟩:=FT Z hz;obtain ⟨i',hi',hs'⟩:=(T _ _ _ hE).info;rw [z1] at hi';obtain rfl:=kG hi';have hbb:i.bytes<=1000:=by
  unfold DQ at hby;rw [z1] at hby;exact kY hby
 have hzs:v0.cells.size=sz:=by rw [z3];simpa using hzl
 have hsz':0<sz:=kY hsz;have hbytes:(m+1)*i.bytes<=140737488355328:=by have:=Nat.mul_le_mul (show m+1<=1000000001 by omega) hbb;omega
 have hnews : ∀j u,us[j]? = some u->w.cell? (p.add j)=some u:=fun j u hj=>hr j u hj
 have hu':P.underlying t=some (.slice e):=(T _ _ _ ht).under;have c:m+1<=maxLen:=by unfold maxLen;omega
 have key : ∃g cap' w',(Builtin.append_ #[t,t] ty #[.slice a m m,.slice (some p) 1 cap]).run P w = .ok (.slice (some ⟨g,0,none⟩) (m+1) cap') w'/\m+1<=cap'/\Row w' ⟨g,0,none⟩ (cs++us)/\w.heap.size<=g/\g<w'.heap.size/\Ext w w':=by
  have fin : ∀(v':Value) (w':wD),w'.ownsRow w.heap.size e sz v' (m+1) (cs++us)->w.grownBy w' none -> ∃g cap',v' = .slice (some ⟨g,0,none⟩) (m+1) cap'/\m+1<=cap'/\Row w' ⟨g,0,none⟩ (cs++us)/\w.heap.size<=g/\g<w'.heap.size/\Ext w w':=fun v' w' h1 h2=>by
   have ho:Own w' w.heap.size e sz v' (m+1) (cs++us):=h1;have hx:Ext w w':=⟨h2.os,h2.tape,h2.output,h2.size,fun k hk=>h2.block k hk A6⟩
   rcases ho.row with ⟨-,h0,-⟩|⟨g,cap',rfl,hg,hob,hrr⟩
   . omega
   . exact ⟨g,cap',rfl,Va ho,hrr,hg,(ho.blk hob).2,hx⟩
  cases a with
  | some b=>
   obtain ⟨v',w',hrun,h1,h2⟩:=run_append_arg_grows (P:=P) w t ty e i v0 sz i.bytes hu' z1 z2 hs' rfl hzs hsz' b m m cs hcl (fun j u hj=>by
    rcases hs with rfl|⟨b',o,hb,-,hrow⟩
    . simp at hj
    . obtain rfl:=kG hb;exact hrow j u hj) p 1 cap us hul hnews Aa c hbytes
   obtain ⟨g,cap',rfl,k⟩:=fin v' w' h1 h2;exact ⟨g,cap',w',hrun,k⟩
  | none=>
   have d:cs=[]:=by
    rcases hs with rfl|⟨b',o,hb,-⟩
    . rfl
    . cases hb
   subst d;have f:m=0:=by
    simp only [ki] at hcl;rcases Nat.eq_zero_or_pos m with h|h
    . exact h
    . have:=Nat.mul_pos h hsz';omega
   subst f;have h1c : ∀u∈us,u.oneCell'=true:=fun u hm=>by rw [<-U0];exact lG.1 hu u hm
   obtain ⟨v',w',hrun,h1,h2,-⟩:=run_append_own (P:=P) w w.heap.size t ty e i v0 sz i.bytes hu' z1 z2 hs' rfl hzs hsz' (.slice none 0 0) 0 [] Own.nil p 1 cap us hul hnews h1c (by unfold maxLen;omega) (by simpa using hbytes) (kv _);obtain ⟨g,cap',rfl,k⟩:=fin v' w' (by simpa using h1) (by simpa [lp] using h2);exact ⟨g,cap',w',hrun,k⟩
 obtain ⟨g,cap',w',hrun,k⟩:=key;unfold Ce;intro act dst pos after gd next Q ha hn _;have e1:(execOp act.eval ⟨dst,.call ⟨.builtin .append,#[x,y],#[t,t]⟩,ty,pos,after,gd⟩).run P w = .ok (.value (.slice (some ⟨g,0,none⟩) (m+1) cap')) w':=by
  simp only [execOp,resolve,invoke,builtin,kB,kJ,lw,List.map_toArray,lr,List.map_nil,ha.ev hx,ha.ev hy,hrun]
 unfold lJ;rw [e1];exact hn _ _ ⟨g,cap',rfl,k⟩
end
def WR:(prog.fieldsOf 93).toList.map (fun f=>(f.name == "_",f.type,f.offset))=[(false,9,0),(false,5,1),(false,3,2)]:=by kernel_rfl
def YM:prog.underlying 93=some (.struct (prog.fieldsOf 93)):=by kernel_rfl
def YN:prog.stoodInHeld 93=false:=by kernel_rfl
def YO:prog.eqGuardType prog.depth 93=false:=by kernel_rfl
def Hc {P:Program} {d:Nat} {xs:Array Value} {w:wD} : ∀(E:List Field),(∀f∈E,∃v,(part f.type xs f.offset).run P w = .ok v w/\(Op.equalIn d f.type v v).run P w = .ok true w)->(Op.eqFields d xs xs E).run P w = .ok true w
 | [],_=>by simp [Op.eqFields]
 | f::E,h=>by
  obtain ⟨v,h1,L⟩:=h f List.mem_cons_self;have F:=Hc (P:=P) (d:=d) (xs:=xs) (w:=w) E (fun g M=>h g (lx _ M));unfold Op.eqFields;split
  . simp only [kB,h1,L,lw,Bool.not_true,lj,if_false,F]
  . exact F
def Hz {P:Program} {tab:Tab} {t sz off:Nat} {s:Sk} {cs:lV} {v:Value} (T:TabOk P tab) (f:AC tab t=some (s,sz)) (h:s.agg=false) (E:cs[off]? = some v) (w:wD):(part t cs.toArray off).run P w = .ok v w:=by
 simp [part,kB,En (T _ _ _ f),h,kn,E]
def St (v:VD) (w:wD):(Op.equalIn 10000 93 v.val v.val).run prog w = .ok true w:=by
 rw [show (10000:Nat)=9999+1 from rfl,run_equalIn_agg w 9999 _ _ _ YM YN];refine Hc _ (fun f F=>?_);have E:(f.name == "_",f.type,f.offset)∈(prog.fieldsOf 93).toList.map (fun f=>(f.name == "_",f.type,f.offset)):=List.mem_map.2 ⟨f,F,rfl⟩;rw [WR] at E;simp only [kF,kI,or_false,kX] at E
 rcases E with ⟨-,h1,h⟩|⟨-,h1,h⟩|⟨-,h1,h⟩
 . rw [h1,h]
   refine ⟨str v.name,Hz (cs:=v.cells) Ab rfl rfl rfl w,?_⟩
   rw [run_equalIn_string w 9998 _ _ _ (show prog.underlying 9=some .string from (Ab 9 .str 1 rfl).under)];simp
 . rw [h1,h]
   refine ⟨.int .u8 v.kind,Hz (cs:=v.cells) Ab rfl rfl rfl w,?_⟩
   rw [run_equalIn_int w 9998 _ _ .u8 _ _ (show prog.underlying 5=some (.int .u8) from (Ab 5 (.int .u8) 1 rfl).under)];simp
 . rw [h1,h]
   refine ⟨.int .i64 v.len,Hz (cs:=v.cells) Ab rfl rfl rfl w,?_⟩
   rw [run_equalIn_int w 9998 _ _ .i64 _ _ (show prog.underlying 3=some (.int .i64) from (Ab 3 (.int .i64) 1 rfl).under)];simp
def WS {n:Nat} {l:Sl} {S:wD->Prop} {ty t':TypeId} {x y:Operand} {v:VD} (h:ev l x=some v.val) (E:ev l y=some v.val):BA prog n l S (.binOp .neq 93 x y t') ty (.bool false):=by
 unfold BA;intro a w F pos after g f _;have L:=run_eqGuard_agg (P:=prog) w .neq 93 x y v.cells.toArray v.cells.toArray YO;have M:(binOp .neq 93 v.val v.val).run prog w = .ok (.bool false) w:=by
  rw [run_neq_struct,St];rfl
 simp only [execOp,f.ev h,f.ev E,kB,L,M,lw,kJ]
def YP (t:Nd):t.eqb t=true:=(U7 t t).2 rfl
def Nz (l:List VD) (S S':nP) (a Z:oA) (c c':Nat) (w:wD) (hl:l.length<=1000000000) (L:VDs S w l a) (f:VDs S' w l Z) :
 Calls prog 42 #[.slice a l.length c,.slice Z l.length c'] w fun e w'=>e = .returned (.bool true)/\Ext w w':=by
 have X:=lN w;refine Ae func42 ntmps42 rfl rfl ?_;refine cS (C1 Pa (cT (Al (cS (C1 Mv (C1 Pz (C1 Mv (C1 Pz (C1 V2 (cT (E4 ?_)))))))))));refine Av (Ai (Al (cS (C1 Mv (C1 Pz (C1 Mv (cT (Ax ?_))))))));refine AM (ι:=Nat) (fun j=>[(0,.slice a l.length c),(1,.slice Z l.length c'),(12,.int .i64 l.length),(13,.int .i64 j)]) (fun j w'=>VDs S w' l a/\VDs S' w' l Z/\Ext w w'/\j<=l.length) (fun j=>l.length-j) 0 sB ⟨L,f,X,kC _⟩ ?_;rintro j w1 ⟨L,f,X,hj⟩;by_cases N:j<l.length
 . obtain ⟨kb,ko,rfl,-,hk⟩:=mq L Aa;obtain ⟨aa,ab,rfl,-,O⟩:=mq f Aa;have r1:Row w1 ⟨kb,ko+j*3,none⟩ l[j].cells:=hk j _ (kg N);have r2:Row w1 ⟨aa,ab+j*3,none⟩ l[j].cells:=O j _ (kg N);clear hk O;generalize l[j]=x at *;refine eK ?_;refine AE (fun U=>Ext w1 U) 8 (.pure 0 (.pure 1 (.pure 2 (.pure 3 (.pure 4 (.pure 5 (.pure 6 (.pure 7 .tail)))))))) mixed BD (Ac (Ak (Ac (Ac (Ak (Ac An)))))) ?_;intro ac V _;have h:(fun U=>Ext w1 U) ac:=V;simp only at h;have Y:=L;have M:=f;have E:=r1;have F:=r2;revert X L f r1 r2;refine eY V ?_;intro ad X L f r1 r2;refine ⟨h,?_⟩;refine eT ?_;refine Tq rfl (BS Ab rfl rfl rfl (fun U hz=>(Row.ext E hz)) rfl) ?_;refine eT ?_;refine Tq rfl (BS Ab rfl rfl rfl (fun U hz=>(Row.ext F hz)) rfl) ?_;clear h Y M E F;refine AI rfl (C1 (WS (v:=x) rfl rfl) (cT (CT rfl (Av (Ad (Ai (Ag (C1 V7 (C1 Mv (Ah ?_))))))))));exact Ay (j+1) sB ⟨L,f,X,Aa⟩ Aa
 . refine eK ?_;refine xR ?_;exact ⟨rfl,X⟩
def Su (t:Nd) (L:t.size<=1000000) (S S':nP) (a f:oA) (c E:Nat) (w:wD) (F:t.sits S w a) (h:t.sits S' w f):Calls prog 45 #[t.val a c,t.val f E] w fun e w'=>e = .returned (.bool true)/\Ext w w':=by
 have:=aB (t.size+1) t t S S' a f c E w Aa Aa F h;rw [YP] at this;exact this
def Uf (p:PD) (S S':nP) (Y N Z O:oA) (pc U bc V:Nat) (w:wD) (hp:p.params.length<=1000000) (hb:p.body.size<=1000000) (h:VDs S w p.params Y) (E:VDs S' w p.params N) (F:p.body.sits S w Z) (L:p.body.sits S' w O) :
 Calls prog 44 #[.agg (p.cells Y pc Z bc).toArray,.agg (p.cells N U O V).toArray] w fun e w'=>e = .returned (.bool true)/\Ext w w':=by
 have X:=lN w;have HV:=kh (Nz p.params S S' Y N pc U);have HE:=kh (Su p.body hb S S' Z O bc V);refine Ae func44 ntmps44 rfl rfl ?_;refine cS (eB [_,_,_,_,_,_] ?_);intro b1 w2 M x5 p6 z7;revert h E F L X;refine eE x5 ?_;intro h E F L X;refine eB [_,_,_,_,_,_] ?_;intro b8 w9 f aa ad ae;revert M h E F L X;refine eE aa ?_;intro M h E F L X;refine C1 Pa (cN (C1 Pg (C1 (Pl M) (C1 Pg (C1 (Pl f) (C1 V8 (C1 Mv (Bl rfl rfl rfl (F4 (rfl)) (C1 Pf (Bl rfl rfl rfl (F4 (rfl)) (C1 (Pl M) ?_)))))))))));refine Bl rfl rfl rfl (F4 (rfl)) (C1 Pf (Bl rfl rfl rfl (F4 (rfl)) (C1 (Pl f) (Bl rfl rfl rfl (F4 (rfl)) (cC rfl (HV.out _ Aa Af Af) ?_)))));rintro _ af ⟨⟨⟩,ab⟩;revert f M h E F L X;refine eY ab ?_;intro ag f M h E F L X;refine C1 (Qy (rfl)) ?_;refine eK ?_;refine cC rfl (HE.out _ Af Af) ?_;rintro _ ah ⟨⟨⟩,ac⟩;revert f M h E F L X;refine eY ac ?_;intro z20 f M h E F L X;refine eK ?_;refine xR ?_;exact ⟨rfl,X⟩
def PDs.ltA {S:nP} {w:wD} {l:List PD} {a:oA} (h:PDs S w l a):PDs (· < w.heap.size) w l a:=by
 rcases h with h|⟨b,o,h1,X,E⟩
 . exact kj h
 . cases l with
   | nil=>exact kj rfl
   | cons v r=>
    obtain ⟨_,_,_,_,f,-,-⟩:=E 0 v rfl;refine kp ⟨b,o,h1,CQ (Row.at0 f rfl),fun i x F=>?_⟩;obtain ⟨L,M,N,O,f,U,V⟩:=E i x F;exact ⟨L,M,N,O,f,U.lt2.wide (fun _ h=>h.2),I0 _ _ V⟩
structure PG.few (g:PG):Prop where
 nv:g.vars.length<=1000000
 np:g.procs.length<=1000000
 main:g.main.size<=1000000
 procs : ∀p∈g.procs,p.params.length<=1000000/\p.body.size<=1000000
def Ug (l:List PD) (S S':nP) (a a':oA) (c c':Nat) (w:wD) (hl:l.length<=1000000) (hf : ∀p∈l,p.params.length<=1000000/\p.body.size<=1000000) (E:PDs S w l a) (f:PDs S' w l a') :
 Calls prog 43 #[.slice a l.length c,.slice a' l.length c',.func (.func 44) #[] #[]] w fun e w'=>e = .returned (.bool true)/\Ext w w':=by
 have X:=lN w;refine Ae func43 ntmps43 rfl rfl ?_;refine cS (C1 Pa (cT (Al (cS (C1 Mv (C1 Pz (C1 Mv (C1 Pz (C1 V2 (cT (E4 ?_)))))))))));refine Av (Ai (Al (cS (C1 Mv (C1 Pz (C1 Mv (cT (Ax ?_))))))));have E:=E.ltA;have f:=f.ltA;refine AM (ι:=Nat) (fun j=>[(1,.slice a' l.length c'),(2,.func (.func 44) #[] #[]),(15,.slice a l.length c),(16,.int .i64 l.length),(17,.int .i64 j)])
  (fun j w'=>j<=l.length/\PDs (· < w.heap.size) w' l a/\PDs (· < w.heap.size) w' l a'/\Ext w w') (fun j=>l.length-j) 0 sB ⟨kC _,E,f,X⟩ ?_
 clear E f X;rintro j w1 ⟨hj,E,f,X⟩;by_cases Y:j<l.length
 . have av:=X.size;obtain ⟨kb,ko,rfl,kS,hk⟩:=mq E Aa;obtain ⟨aw,ax,rfl,ay,Z⟩:=mq f Aa;obtain ⟨xa,xc,ya,yc,L,M,N⟩:=hk j _ (kg Y);obtain ⟨ae,af,ag,ah,O,v2,U⟩:=Z j _ (kg Y);obtain ⟨p1,p2⟩:=hf _ (kq Y);clear hk Z;generalize l[j]=x at *;have HP:=kh (Uf x (· < w.heap.size) (· < w.heap.size) xa ae ya ag xc af yc ah · p1 p2);refine eK ?_;refine eA [_,_,_,_,_,_] ?_;intro az a0 ai aj a1 a2;revert X E f L M N O v2 U;refine eE aj ?_;intro X E f L M N O v2 U;refine C1 Pa (eS [_,_,_,_,_,_] ai ?_);intro a3 F aa ak;revert X E f L M N O v2 U;refine eF aa ?_;intro X E f L M N O v2 U;refine eK ?_;refine xA [_,_,_,_,_,_] ?_;intro al am ab;refine eI [_,_,_,_,_,_] ab ?_;intro an V ac ao ap;revert F X E f L M N O v2 U;refine eE ac ?_;intro F X E f L M N O v2 U;refine eK ?_;refine Au (BU (fi:=[]) (ca:=[]) BD rfl rfl (HP.out _ Af Af Af Af) (fun _ _ h=>⟨_,h.1⟩)) rfl ?_ aFh;rintro aq ar ⟨⟨⟩,ad⟩;revert V F X E f L M N O v2 U;refine eY ad ?_;intro au V F X E f L M N O v2 U;refine C1 Pt (cT (CT rfl (Av (Ad (Ai (Ag (C1 V7 (C1 Mv (Ah ?_)))))))));exact Ay (j+1) sB ⟨Aa,E,f,X⟩ Aa
 . refine eK ?_;refine xR ?_;exact ⟨rfl,X⟩
def bG (g:PG) (S S':nP) (va pa ma U V Y:oA) (vc pc mc Z aa ab:Nat) (w:wD) (hg:g.few) (hs:g.sits S w va pa ma) (ac:g.sits S' w U V Y) :
 Calls prog 23 #[.agg (g.cells va vc pa pc ma mc).toArray,.agg (g.cells U Z V aa Y ab).toArray] w fun e w'=>e = .returned (.bool true)/\Ext w w':=by
 have X:=lN w;obtain ⟨nv,np,hm,hp⟩:=hg;obtain ⟨M,N,h⟩:=hs;obtain ⟨E,F,f⟩:=ac;have HV:=kh (Nz g.vars S S' va U vc Z);have HP:=kh (Ug g.procs S S' pa V pc aa · np hp);have HE:=kh (Su g.main hm S S' ma Y mc ab);clear hp;refine Ae func23 ntmps23 rfl rfl ?_;refine cS (eB [_,_,_,_,_,_] ?_);intro b1 w2 O x5 p6 z7;revert X M N h E F f;refine eE x5 ?_;intro X M N h E F f;refine eB [_,_,_,_,_,_] ?_;intro b8 w9 L ad ah ai;revert O X M N h E F f;refine eE ad ?_;intro O X M N h E F f;refine eK ?_;refine cC rfl (HV.out _ Aa Af Af) ?_;rintro _ aj ⟨⟨⟩,ae⟩;revert L O X M N h E F f;refine eY ae ?_;intro ak L O X M N h E F f;refine eK ?_;refine cC rfl (HP.out _ Af Af) ?_;rintro _ al ⟨⟨⟩,af⟩;revert L O X M N h E F f;refine eY af ?_;intro z20 L O X M N h E F f;refine eK ?_;refine cC rfl (HE.out _ Af Af) ?_;rintro _ am ⟨⟨⟩,ag⟩;revert L O X M N h E F f;refine eY ag ?_;intro an L O X M N h E F f;refine eK ?_;refine xR ?_;exact ⟨rfl,X⟩
def Q5 (l:List VD) (U:l.length<=1000000) (s:lB) (S:nP) (a:oA) (c:Nat) (w:wD) (h:VDs S w l a) :
 Calls prog 89 #[.slice a l.length c,str s] w fun e w'=>e = .returned (.int .i64 (F2 l s))/\Ext w w':=by
 have X:=lN w;have E:=kh (Ue l U s);unfold F2;generalize GX l s=o at *;cases o with
 | none=>
  dsimp only [Option.isSome,Option.getD] at E ⊢;refine Ae func89 ntmps89 rfl rfl ?_;refine eK ?_;refine cC rfl (E.out _ _ _ _ Af) ?_;rintro _ w2 ⟨⟨⟩,V⟩;revert h X;refine eY V ?_;intro z3 h X;refine eK ?_;refine xA [_,_,_] ?_;intro b4 w5 Y;refine eI [_,_,_] Y ?_;intro w7 h8 Z aa ab;revert h X;refine eE Z ?_;intro h X;refine eK ?_;refine xR ?_;exact ⟨rfl,X⟩
 | some v=>
  obtain ⟨vn,vk,vl⟩:=v;dsimp only [Option.isSome,Option.getD] at E ⊢;refine Ae func89 ntmps89 rfl rfl ?_;refine eK ?_;refine cC rfl (E.out _ _ _ _ Af) ?_;rintro _ ac ⟨⟨⟩,F⟩;revert h X;refine eY F ?_;intro ad h X;refine eK ?_;refine xA [_,_,_] ?_;intro ae af f;refine Gp [_,_,_] Ab rfl rfl rfl rfl rfl rfl f rfl ?_;intro ag f;have L:=f.blk;dsimp only at L;have M:=f.ext;have N:=f.pos;have O:=f.size;revert h X;refine eE M ?_;intro h X;refine eK ?_;refine xR ?_;exact ⟨rfl,X⟩
def iY (l:List VD) (V:l.length<=1000000) (s:lB) (k:Int) (S:nP) (a:oA) (c:Nat) (w:wD) (h:VDs S w l a) :
 Calls prog 180 #[.slice a l.length c,str s,.int .u8 k] w fun e w'=>e = .returned (.int .i64 (RD l s k))/\Ext w w':=by
 have X:=lN w;have F:=kh (Ue l V s);unfold RD;generalize GX l s=o at *;cases o with
 | none=>
  dsimp only [Option.isSome,Option.getD] at F;refine Ae func180 ntmps180 rfl rfl ?_;refine eK ?_;refine cC rfl (F.out _ _ _ _ Af) ?_;rintro _ w2 ⟨⟨⟩,Y⟩;revert h X;refine eY Y ?_;intro z3 h X;refine eK ?_;refine xA [_,_,_] ?_;intro b4 w5 Z;refine eI [_,_,_] Z ?_;intro w7 h8 x9 aa ab;revert h X;refine eE x9 ?_;intro h X;refine eK ?_;refine xR ?_;exact ⟨rfl,X⟩
 | some v=>
  obtain ⟨vn,vk,vl⟩:=v;dsimp only [Option.isSome,Option.getD] at F ⊢;refine Ae func180 ntmps180 rfl rfl ?_
  focus
   refine eK ?_;refine cC rfl (F.out _ _ _ _ Af) ?_;rintro _ ac ⟨⟨⟩,L⟩;revert h X;refine eY L ?_;intro ad h X;refine eK ?_;refine xA [_,_,_] ?_;intro ae af f;refine Gp [_,_,_] Ab rfl rfl rfl rfl rfl rfl f rfl ?_;intro ag f;have M:=f.blk;dsimp only at M;have N:=f.ext;have O:=f.pos;have U:=f.size;revert h X;refine eE N ?_;intro h X;refine eK ?_;refine Kn rfl (fun E=>?_) (fun E=>?_);refine eK ?_;refine xR ?_;rotate_left;refine eK ?_;refine xR ?_;rotate_left
  all_goals exact ⟨by simp [*],X⟩
def Jc (ps:List PD) (s:lB):Int:=match Gr ps s with
 | some i=>(i:Int)
 | none=> -1
def PDs.get {S:nP} {w:wD} {l:List PD} {a:oA} (h:PDs S w l a) (f:l≠[]) : ∃b o,a=some ⟨b,o,none⟩/\S b /\ ∀i p,l[i]? = some p->iN S w b (o+i*6) p:=by
 rcases h with h|⟨b,o,h1,E,F⟩
 . exact absurd h f
 . exact ⟨b,o,h1,E,fun i v L=>F i v L⟩
def bH (p:PD) (E F:oA) (L M f:Nat) (s:lB) (w:wD) (h:Blk w f [str s]):Calls prog 132 #[.agg (p.cells E L F M).toArray,.pointer (some ⟨f,0,none⟩)] w fun e w'=>e = .returned (.bool (decide (p.name=s)))/\Ext w w':=by
 have X:=lN w;refine Ae func132 ntmps132 rfl rfl ?_;refine cS (eB [_,_,_,_,_,_] ?_);intro O U V N Y Z;revert h X;refine eE N ?_;intro h X;refine eK ?_;refine xR ?_;exact ⟨rfl,X⟩
def OL {α:Type} {f:α->Bool} {l:List α} {j:Nat} (h:j<l.length) (F:(l.take j).findIdx? f=none):(l.take (j+1)).findIdx? f=if f l[j]=true then some j else none:=by
 rw [ky h,List.findIdx?_append,F];by_cases E:f l[j]=true
 . simp [E,List.findIdx?_cons];omega
 . simp [E,List.findIdx?_cons]
def OM {α:Type} {f:α->Bool} {l:List α} {j i:Nat} (h:(l.take j).findIdx? f=some i):l.findIdx? f=some i:=by
 rw [<-lf j l,List.findIdx?_append,h];rfl
def YQ (l:List PD) (hl:l.length<=1000000) (s:lB) (S:nP) (a:oA) (c N:Nat) (w:wD) (f:PDs S w l a) (M:Blk w N [str s]) :
 Calls prog 131 #[.slice a l.length c,.func (.func 132) #[] #[.pointer (some ⟨N,0,none⟩)]] w fun e w'=>e = .returned (.int .i64 (Jc l s))/\Ext w w':=by
 have X:=lN w;have f:=f.ltA;refine Ae func131 ntmps131 rfl rfl ?_;refine cS (C1 Pa (cT (Al (cS (C1 Mv (C1 Pz (C1 Mv (cT ?_))))))));refine Ax ?_;refine AM (ι:=Nat) (fun j=>[(0,.slice a l.length c),(1,.func (.func 132) #[] #[.pointer (some ⟨N,0,none⟩)]),(6,.slice a l.length c),(7,.int .i64 l.length),(8,.int .i64 j)])
  (fun j w'=>j<=l.length/\PDs (· < w.heap.size) w' l a/\Blk w' N [str s]/\Ext w w'/\(l.take j).findIdx? (fun p=>decide (p.name=s))=none)
  (fun j=>l.length-j) 0 sB ⟨kC _,f,M,X,rfl⟩ ?_
 clear f M X;rintro j w1 ⟨hj,f,M,X,E⟩;by_cases L:j<l.length
 . obtain ⟨kb,ko,rfl,kS,F⟩:=f.get (by intro e;subst e;simp at L);obtain ⟨pa,pc,ba,bc,Z,-,-⟩:=F j l[j] (kg L);have O:=OL L E;have U:l[j].name=s->Jc l s=j:=fun h=>by
    rw [AH (by simpa using h)] at O;rw [Jc,Gr,OM O]
   clear F E;generalize l[j]=y at *
   focus
    refine eK ?_;refine Au (BU (fi:=[]) (ca:=[.pointer (some ⟨N,0,none⟩)]) BD rfl rfl (bH y pa ba pc bc _ s _ Af) (fun _ _ h=>⟨_,h.1⟩)) rfl ?_ aFh;rintro _ aa ⟨⟨⟩,V⟩;revert M X f Z;refine eY V ?_;intro ab M X f Z;refine cT ?_;refine AF rfl (fun Y=>?_) (fun Y=>?_);refine eK ?_;refine xR ?_;rotate_left;refine Av (Ad (Ai (Ag (C1 V7 (C1 Mv (Ah ?_))))));rotate_left
   . exact ⟨by rw [U Af],X⟩
   . exact Ay (j+1) sB ⟨Aa,f,M,X,O.trans (At (by simpa using Af))⟩ Aa
 . obtain rfl:j=l.length:=by omega
   rw [kE] at E;have he:Jc l s = -1:=by rw [Jc,Gr,E]
   rw [he];refine eK ?_;refine xR ?_;exact ⟨rfl,X⟩
def Uh (g:PG) (N:g.procs.length<=1000000) (s:lB) (S:nP) (O:oA) (U:Nat) (M:oA) (V:Nat) (Y:oA) (Z:Nat) (w:wD) (f:PDs S w g.procs M) :
 Calls prog 90 #[.agg (g.cells O U M V Y Z).toArray,str s] w fun e w'=>e = .returned (.int .i64 (Jc g.procs s))/\Ext w w':=by
 have X:=lN w;have f:=f.ltA;refine Ae func90 ntmps90 rfl rfl ?_;refine cS (eB [_,_,_,_,_,_] ?_);intro b1 w2 E x5 p6 z7;revert X f;refine eE x5 ?_;intro X f;refine eB [_] ?_;intro b8 w9 h F aa ab;revert E X f;refine eE F ?_;intro E X f;refine eK ?_;refine C1 (FA rfl) (cC rfl (YQ _ N s _ _ _ _ _ Af Af) ?_);rintro _ ac ⟨⟨⟩,L⟩;revert h E X f;refine eY L ?_;intro ad h E X f;refine eK ?_;refine xR ?_;exact ⟨rfl,X⟩
def bI (a:oA) (n c:Nat) (w:wD) (f:n<=c) (h:n<=1000000):Calls prog 181 #[.slice a n c] w fun e w'=>e = .returned (.slice a n n)/\w=w':=by
 refine Ae func181 ntmps181 rfl rfl ?_;refine eK ?_;refine C1 (Ss Ab rfl rfl rfl rfl rfl f) ?_;refine eK ?_;refine xR ?_;exact ⟨rfl,rfl⟩
def MM (a:oA) (n c:Nat) (w:wD) (f:n<=c) (h:n<=1000000):Calls prog 182 #[.slice a n c] w fun e w'=>e = .returned (.slice a n n)/\w=w':=by
 refine Ae func182 ntmps182 rfl rfl ?_;refine eK ?_;refine C1 (Ss Ab rfl rfl rfl rfl rfl f) ?_;refine eK ?_;refine xR ?_;exact ⟨rfl,rfl⟩
def PathAt (S:nP) (w:wD) (a:oA) (n c:Nat):Prop:=(n<=c/\(a=none->c=0)) /\ ∃cs:lV,cs.length=n*1/\cs.all Value.one=true/\Rows S w cs a
def PathAt.nil {S:nP} {w:wD}:PathAt S w none 0 0:=⟨⟨kv _,fun _=>rfl⟩,[],rfl,rfl,kj rfl⟩
def PathAt.ext {S:nP} {w w':wD} {a:oA} {n c:Nat} (h:PathAt S w a n c) (x:Ext w w'):PathAt S w' a n c:=⟨h.1,by obtain ⟨cs,h1,f,E⟩:=h.2;exact ⟨cs,h1,f,E.ext x⟩⟩
instance {S:nP} {w w':wD} {a:oA} {n c:Nat}:LfE w w' (PathAt S w a n c) (PathAt S w' a n c):=⟨fun x h=>Bk.PathAt.ext h x⟩
def PathAt.fr {S T:nP} {w w':wD} {a:oA} {n c:Nat} (h:PathAt S w a n c) (x:Fr T w w') (f : ∀b,S b -> ¬T b):PathAt S w' a n c:=⟨h.1,by obtain ⟨cs,h1,E,F⟩:=h.2;exact ⟨cs,h1,E,F.fr x f⟩⟩
instance {S T:nP} {w w':wD} {a:oA} {n c:Nat}:LfF T w w' (PathAt S w a n c) (∀b,S b -> ¬T b) (PathAt S w' a n c):=⟨fun x s h=>Bk.PathAt.fr h x s⟩
def PathAt.clone {S:nP} {w:wD} {a:oA} {n c:Nat} (h:PathAt S w a n c) (N:n<=1000000):Calls prog 88 #[.slice a n c] w (SliceR n w):=by
 obtain ⟨⟨h1,f⟩,cs,E,F,L⟩:=h;cases a with
 | some p=>exact L4 cs n E F Aa S p c w L
 | none=>
  have M:=f rfl;subst M;obtain rfl:n=0:=by omega
  exact L5 w
def ChildR (n:Nat) (w:wD):Ending->wD->Prop:=fun e w'=> ∃g c,e = .returned (.slice (some ⟨g,0,none⟩) (n+1) c)/\PathAt (fun b=>w.heap.size<=b/\b<w'.heap.size) w' (some ⟨g,0,none⟩) (n+1) c/\Ext w w'
def ChildR.ret {n:Nat} {w:wD} {e:Ending} {w':wD} (h:ChildR n w e w') : ∃v,e = .returned v:=by
 obtain ⟨_,_,h,-⟩:=h;exact ⟨_,h⟩
def Vs (i:Int) (S:nP) (a:oA) (n c:Nat) (w:wD) (N:n<=1000000) (O:PathAt S w a n c):Calls prog 134 #[.slice a n c,.int .i64 i] w (ChildR n w):=by
 have X:=lN w;obtain ⟨⟨U,-⟩,cs,h1,V,f⟩:=O;have f:=f.ltA;refine Ae func134 ntmps134 rfl rfl ?_;refine eK ?_;refine cC rfl (bI _ _ _ _ U N) ?_;rintro _ w1 ⟨⟨⟩,rfl⟩;refine C1 Mv ?_;refine Au (xS [_]) rfl ?_ aFh;rintro _ w3 ⟨b2,rfl,h,t5⟩;have M:=h.blk;have Y:=h.ext;have p8:=h.pos;have z9:=h.size;revert X f;refine eE Y ?_;intro X f;refine Au (DJ Ab C9 rfl rfl rfl rfl BD rfl rfl rfl Af h1 (l8 Af) rfl rfl Aa) rfl ?_ aFh;rintro _ Z ⟨aa,⟨E,⟨rfl,⟨F,⟨ab,⟨ac,⟨ad,L⟩⟩⟩⟩⟩⟩⟩;revert M X f;refine eY L ?_;intro ae M X f;refine eK ?_;refine xR ?_;exact ⟨_,_,rfl,⟨⟨F,fun e=>by cases e⟩,cs++[.int .i64 i],by simp [h1],by rw [List.all_append,V];rfl,kp ⟨_,_,rfl,⟨Aa,Aa⟩,Af⟩⟩,X⟩
def InnerR (S:nP) (L:List VD) (w:wD):Ending->wD->Prop:=fun e w'=> ∃a c,e = .returned (.slice a L.length c)/\L.length<=c/\VDs (fun b=>S b\/(w.heap.size<=b/\b<w'.heap.size)) w' L a/\Ext w w'
def InnerR.ret {S:nP} {L:List VD} {w:wD} {e:Ending} {w':wD} (h:InnerR S L w e w') : ∃v,e = .returned v:=by
 obtain ⟨_,_,h,-⟩:=h;exact ⟨_,h⟩
def NA {S:nP} {l:List VD} {v:VD} {g c:Nat} {w w':wD} (f:l.length+1<=c) (h:Row w' ⟨g,0,none⟩ (l.flatMap VD.cells++v.cells)) (h1:w.heap.size<=g) (E:g<w'.heap.size) (X:Ext w w'):InnerR S (l++[v]) w (.returned (.slice (some ⟨g,0,none⟩) (l.length+1) c)) w':=by
 refine ⟨some ⟨g,0,none⟩,c,A6,by simpa using f,Nn (kp ⟨g,0,rfl,kp ⟨h1,E⟩,?_⟩),X⟩;rw [List.flatMap_append];simpa using h
def bJ (k n:Int) (s:lB) (kl:List Nd) (ka:oA) (kc i:Nat) (l:List VD) (hl:l.length<=1000000) (S:nP) (a:oA) (c:Nat) (w:wD) (hc:l.length<=c) (F:VDs S w l a) :
 Calls prog 136 #[(Nd.mk k n s kl).val ka kc,.int .i64 i,.slice a l.length c] w (InnerR S (D6 k s i l) w):=by
 have X:=lN w;have h1:=IY QJ l;have F:=RY F;have L:=F.ltA;show Calls prog 136 #[.agg #[.int .u8 k,.int .i64 n,str s,.slice ka kl.length kc],.int .i64 i,.slice a l.length c] w (InnerR S (D6 k s i l) w);by_cases V:k=54/\i=1
 . have hv:D6 k s i l=l++[⟨s,1,0⟩]:=by unfold D6;rw [AH V]
   rw [hv];obtain ⟨rfl,rfl⟩:=V;refine Ae func136 ntmps136 rfl rfl ?_
   focus
    refine cS (eB [_,_,_,_] ?_);intro b1 w2 U x5 p6 z7;revert X F L;refine eE x5 ?_;intro X F L;refine eK ?_;refine AE (fun wz=>Ext w2 wz) 6 (.pure 0 (.pure 2 (.pure 3 (.pure 4 (.fork 1 (.fork 5 .tail .none) (.fork 5 (.fork 1 .tail .none) .none)))))) mixed BD (Ac (Ak (Ac An))) ?_;intro w8 x9 _;have E:(fun wz=>Ext w2 wz) w8:=x9;simp only at E;have a3:=U;have ad:=F;have ae:=L;revert U X F L;refine eY x9 ?_;intro bw U X F L;refine ⟨E,?_⟩;refine eT ?_;refine Tq rfl (xB [_,_,_]) ?_;refine A1 rfl (By BD rfl (MM _ _ _ _ hc hl) (fun _ _ h=>⟨_,h.1⟩)) rfl ?_ aFh ?kr12;rintro _ bx ⟨⟨⟩,rfl⟩;refine ⟨E,?_⟩;refine A1 rfl (xS [_,_,_]) rfl ?_ aFh A9;rintro _ bz ⟨b0,rfl,Y,b2⟩;have af:=Y.blk;have au:=Y.ext;have b3:=Y.pos;have z22:=Y.size;revert E U X F L;refine eE au ?_;intro E U X F L;refine ⟨E,?_⟩;refine AI rfl ?_;refine Au (DJ Ab C9 rfl rfl rfl rfl BD rfl rfl rfl Af h1 (l8 Af) rfl rfl Aa) rfl ?_ aFh;rintro _ b4 ⟨b5,⟨aq,⟨rfl,⟨b6,⟨b7,⟨b8,⟨b9,ag⟩⟩⟩⟩⟩⟩⟩;have z31:=ag.size;revert af U X F L;refine eE ag ?_;intro af U X F L;refine eK ?_;refine xR ?_;rotate_left;refine A1 rfl (xS [_,_,_]) rfl ?_ aFh A9;rintro _ ca ⟨cb,rfl,Z,cc⟩;have ah:=Z.blk;have av:=Z.ext;have cd:=Z.pos;have ce:=Z.size;revert E U X F L;refine eE av ?_;intro E U X F L;refine ⟨E,?_⟩;refine tC rfl rfl (MM _ _ _ _ hc hl) ?_;rintro _ cf ⟨⟨⟩,rfl⟩;refine ⟨E,?_⟩;refine AI rfl ?_;refine Au (DJ Ab C9 rfl rfl rfl rfl BD rfl rfl rfl Af h1 (l8 Af) rfl rfl Aa) rfl ?_ aFh;rintro _ cg ⟨ch,⟨ar,⟨rfl,⟨ci,⟨cj,⟨ck,⟨cl,aw⟩⟩⟩⟩⟩⟩⟩;revert ah U X F L;refine eY aw ?_;intro z51 ah U X F L;refine eK ?_;refine xR ?_;rotate_left
   all_goals exact NA (v:=⟨s,1,0⟩) Af Af Aa Af X
 by_cases ac:k=55/\i=0
 . have hv:D6 k s i l=l++[⟨s,3,0⟩]:=by unfold D6;rw [At V,AH ac]
   rw [hv];obtain ⟨rfl,rfl⟩:=ac;refine Ae func136 ntmps136 rfl rfl ?_
   focus
    refine cS (eB [_,_,_,_] ?_);intro cm ai M ax cn co;revert X F L;refine eE ax ?_;intro X F L;refine eK ?_;refine AE (fun wz=>Ext ai wz) 6 (.pure 0 (.pure 2 (.pure 3 (.pure 4 (.fork 1 (.fork 5 .tail .none) (.fork 5 (.fork 1 .tail .none) .none)))))) mixed BD (Ac (Ak (Ac An))) ?_;intro ay aj _;have f:(fun wz=>Ext ai wz) ay:=aj;simp only at f;have az:=M;have ad:=F;have ae:=L;revert M X F L;refine eY aj ?_;intro a4 M X F L;refine ⟨f,?_⟩;refine eT ?_;refine Tq rfl (xB [_,_,_]) ?_;refine A1 rfl (By BD rfl (MM _ _ _ _ hc hl) (fun _ _ h=>⟨_,h.1⟩)) rfl ?_ aFh ?kra12;rintro _ a5 ⟨⟨⟩,rfl⟩;refine ⟨f,?_⟩;refine A1 rfl (xS [_,_,_]) rfl ?_ aFh A9;rintro _ a6 ⟨a7,rfl,N,a8⟩;have aa:=N.blk;have ak:=N.ext;have a9:=N.pos;have ba:=N.size;revert f M X F L;refine eE ak ?_;intro f M X F L;refine ⟨f,?_⟩;refine AI rfl ?_;refine Au (DJ Ab C9 rfl rfl rfl rfl BD rfl rfl rfl Af h1 (l8 Af) rfl rfl Aa) rfl ?_ aFh;rintro _ bb ⟨bc,⟨al,⟨rfl,⟨bd,⟨be,⟨bf,⟨bg,am⟩⟩⟩⟩⟩⟩⟩;revert aa M X F L;refine eY am ?_;intro bh aa M X F L;refine eK ?_;refine xR ?_;rotate_left;refine A1 rfl (xS [_,_,_]) rfl ?_ aFh A9;rintro _ bi ⟨bj,rfl,O,bk⟩;have ab:=O.blk;have an:=O.ext;have bm:=O.pos;have bn:=O.size;revert f M X F L;refine eE an ?_;intro f M X F L;refine ⟨f,?_⟩;refine tC rfl rfl (MM _ _ _ _ hc hl) ?_;rintro _ bo ⟨⟨⟩,rfl⟩;refine ⟨f,?_⟩;refine AI rfl ?_;refine Au (DJ Ab C9 rfl rfl rfl rfl BD rfl rfl rfl Af h1 (l8 Af) rfl rfl Aa) rfl ?_ aFh;rintro _ bp ⟨bq,⟨ao,⟨rfl,⟨br,⟨bs,⟨bt,⟨bu,ap⟩⟩⟩⟩⟩⟩⟩;revert ab M X F L;refine eY ap ?_;intro bv ab M X F L;refine eK ?_;refine xR ?_;rotate_left
   all_goals exact NA (v:=⟨s,3,0⟩) Af Af Aa Af X
 . have hv:D6 k s i l=l:=by unfold D6;rw [At V,At ac]
   rw [hv];refine Ae func136 ntmps136 rfl rfl ?_
   focus
    refine cS (eB [_,_,_,_] ?_);intro cp cq cr a0 ct cu;revert X F;refine eE a0 ?_;intro X F;refine eK ?_;refine DG rfl rfl rfl (fun a1=>?_) (fun a1=>?_);refine eK ?_;refine xR ?_;rotate_left;refine eK ?_;refine DG rfl rfl rfl (fun a2=>?_) (fun a2=>?_);refine eK ?_;refine xR ?_;rotate_left;refine eK ?_;refine xR ?_;rotate_left
   all_goals exact ⟨_,_,rfl,hc,(Nn Af).wide (fun _ h=>kj h),X⟩
end Bk
