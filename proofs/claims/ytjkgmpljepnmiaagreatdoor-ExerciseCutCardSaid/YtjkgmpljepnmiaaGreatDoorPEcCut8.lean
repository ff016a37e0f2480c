/- Texts that the proofs of ExerciseCut need. No condition. (Part 8 of 8.) -/
import Derived.Test.YtjkgmpljepnmiaaGreatDoorPEcCut7
set_option linter.unusedSimpArgs false
set_option linter.unusedVariables false
set_option linter.defProp false
set_option maxRecDepth 100000
set_option maxHeartbeats 4000000
open Go.Proofs.Tryz
open List renaming length_append->j9,length_cons->kf,getElem?_eq_getElem->kg,length_nil->ki,getElem_cons_succ->km,getElem_mem->kq,set_cons_zero->kx,take_succ_eq_append_getElem->ky,append_assoc->kA,cons_append->kD,take_length->kE,mem_cons->kF,not_mem_nil->kI,getElem?_eq_none->kO,length_take->kU,replicate->kV,take_append_drop->lf,flatten_cons->lg,drop_eq_getElem_cons->lh,nil_append->lk,append_nil->ll,take_succ_cons->lo,isEmpty_iff->lq,map_cons->lr,mem_cons_of_mem->lx,all_eq_true->lG,getElem?_append_right->lH,getElem?_append_left->lI,mem_singleton->lM
open Bool renaming and_eq_true->ke,false_eq_true->lj
open Go.Lib renaming hid->kh,indexByte->li
open Or renaming inl->kj,inr->kp
open Go.Result renaming andThen->kn,andThen_ok->lw
open Nat renaming le_refl->kv,zero_le->kC,blt->kH,lt_or_ge->kK,le_trans->kW,le_of_ble_eq_true->kY,eq_of_beq_eq_true->ln,ble->lD,beq->lE
open Option.some renaming injEq->kz,inj->kG
open Go.Sem renaming run_bind->kB,run_pure->kJ
open Go renaming Calls->kL
open Go.IntWalk renaming i64_in->kN
open Go.Region renaming ready->kP,binds->lF
open List.cons renaming injEq->kQ
open Go.Value.slice renaming injEq->kT
open Prod.mk renaming injEq->kX
open Go.DataW renaming trod->kZ
open Array renaming getElem?_eq_none->ld
open Go.Value renaming slice->lm,ownBlock->lp
open Go.Addr renaming add->lA
open Go.Oper renaming wp->lJ
open Bk.Nd renaming name->md
namespace Bk
open Go
def GQ (L:List Pc) (d:Nat):List Pc:=.sp [32]::.tk [123]::.sp [10]::(L++[.sp (Du d),.tk [125]])
def Hg:List lB->List Pc
 | []=>[]
 | m::r=>.tk [44]::.sp [32]::.tk m::Hg r
def MR:List Nd->List Pc
 | []=>[]
 | x::r=>.tk x.name::Hg (r.map md)
def Rq (k:Int):lB:=
 if k=44 then [112,117,115,104] else if k=45 then [112,111,112] else if k=46 then [114,101,97,100] else if k=47 then [117,110,114,101,97,100] else if k=48 then [119,114,105,116,101] else if k=49 then [117,110,119,114,105,116,101]
 else if k=50 then [99,97,108,108] else if k=51 then [117,110,99,97,108,108] else if k=52 then [105,102] else if k=53 then [102,114,111,109] else [108,111,99,97,108]
def Xw (k:Int):lB:=if k=52 then [101,108,115,101] else [108,111,111,112]
def Ti (k:Int):lB:=if k=52 then [102,105] else [117,110,116,105,108]
mutual
def Nd.spcs:Nd->Nat->List Pc
 | .mk k _ s l,d=>
  if k=40\/k=41\/k=42\/k=56\/k=43 then match l with|[x,y]=>x.pcs++(.sp [32]::.tk (DF k)::.sp [32]::y.pcs)|_=>[]
  else if k=44\/k=45 then match l with|[x]=>.tk (Rq k)::.sp [32]::(x.pcs++[.tk [44],.sp [32],.tk s])|_=>[]
  else if 46<=k/\k<=49 then match l with|[x]=>.tk (Rq k)::.sp [32]::x.pcs|_=>[]
  else if k=50\/k=51 then .tk (Rq k)::.sp [32]::.tk s::.tk [40]::(MR l++[.tk [41]])
  else if k=52\/k=53 then match l with|[x,y,z,u]=>.tk (Rq k)::.sp [32]::(x.pcs++(GQ (y.lpcs (d+1)) d++(.sp [32]::.tk (Xw k)::(GQ (z.lpcs (d+1)) d++(.sp [32]::.tk (Ti k)::.sp [32]::u.pcs)))))|_=>[]
  else if k=54 then match l with|[x,y,z]=>.tk [108,111,99,97,108]::.sp [32]::.tk s::.sp [32]::.tk [61]::.sp [32]::(x.pcs++(GQ (y.lpcs (d+1)) d++(.sp [32]::.tk [100,101,108,111,99,97,108]::.sp [32]::z.pcs)))|_=>[]
  else if k=55 then match l with|[x]=>.tk [108,111,99,97,108]::.sp [32]::.tk [115,116,97,99,107]::.sp [32]::.tk s::GQ (x.lpcs (d+1)) d|_=>[]
  else []
def Nd.lpcs:Nd->Nat->List Pc
 | .mk _ _ _ l,d=>Fs l d
def Fs:List Nd->Nat->List Pc
 | [],_=>[]
 | t::r,d=>.sp (Du d)::(t.spcs d++(.tk [59]::.sp [10]::Fs r d))
end
def Qa {p:Option lB} {s:lB} {r:List Pc} (E : ∀c∈s,Dn c=true) (f:s≠[]) (h:wf none r):wf p (.sp s::r):=by
 refine ⟨E,?_⟩;cases s with
 | nil=>exact absurd rfl f
 | cons c s=>exact h
def CJ {p:Option lB} {r:List Pc} (h:wf none r):wf p (.sp [32]::r):=Qa Ao Ao h
def dD {p:Option lB} {r:List Pc}:B9 p (.sp [32]::r)=B9 none r:=rfl
def Cw {t:lB} {r:List Pc} (f:TokT t) (h:wf (some t) r):wf none (.tk t::r):=⟨f,fun u E=>(by cases E),h⟩
def ED {t0 t:lB} {r:List Pc} (f:TokT t) (E : ∀c∈t.head?,Adj t0 c) (h:wf (some t) r):wf (some t0) (.tk t::r):=⟨f,fun u F=>by
 have:t0=u:=by simpa using F
 rw [<-this];exact E,h⟩
def Xx (d:Nat) : ∀c∈Du d,Dn c=true:=fun c f=>by
 have:c=9:=(List.mem_replicate.1 f).2;subst this;decide
def VL {d:Nat} {r:List Pc} (h:wf none r):wf none (.sp (Du d)::r):=by
 refine ⟨Xx d,?_⟩;split<;>exact h
def Tj {d:Nat} {r:List Pc}:B9 none (.sp (Du d)::r)=B9 none r:=by
 simp only [B9];split<;>rfl
structure NiceL (L:List Pc):Prop where
 wf:wf none L
 fin:B9 none L=none
def NiceL.wf_b {L:List Pc} (h:NiceL L) (d:Nat) {r:List Pc} (f:Bk.wf (some [125]) r) (p:Option lB):Bk.wf p (GQ L d++r):=by
 have E:TokT [123]:=A3 Ao;have F:TokT [125]:=A3 Ao;unfold GQ;simp only [kD,kA];refine CJ (Cw E (Qa Ao Ao ?_));rw [DM,h.fin];exact ⟨h.wf,VL (Cw F f)⟩
def NiceL.end_b {L:List Pc} (h:NiceL L) (d:Nat) (r:List Pc) (p:Option lB):B9 p (GQ L d++r)=B9 (some [125]) r:=by
 unfold GQ;simp only [kD,kA];rw [dD];simp only [B9];show B9 none (L++_)=_;rw [C6,h.fin];simp only [kD,lk];rw [Tj];rfl
def LN (L:List Pc) (d:Nat):flat (GQ L d)=[32,123,10]++flat L++Du d++[125]:=by
 unfold GQ;simp only [flat,Bq];simp
def gT (L:List Pc) (d:Nat):toks (GQ L d)=[123]::(toks L++[[125]]):=by
 unfold GQ;simp only [toks,Br]
structure NiceS (L:List Pc):Prop where
 wf:wf none L
 fin : ∃t,B9 none L=some t/\Hf t
def Nice.then_ {L r:List Pc} {p:Option lB} (h:Nice L) (f:Oh p) (E : ∀t,Hf t->Bk.wf (some t) r):Bk.wf p (L++r):=by
 rw [DM];obtain ⟨t,e,F⟩:=h.fin p;rw [e];exact ⟨h.wf p f,E t F⟩
def Nice.end_ {L r:List Pc} {p:Option lB} (h:Nice L) {q:Option lB} (f : ∀t,B9 (some t) r=q):B9 p (L++r)=q:=by
 rw [C6];obtain ⟨t,e,E⟩:=h.fin p;rw [e];exact f t
def LO {t:lB} (h:Hf t) : ∀c∈([44]:lB).head?,Adj t c:=fun c f=>by
 have:c=44:=by simpa using f.symm
 subst this;exact h.2.2.2
def LP {t:lB} (h:Hf t) : ∀c∈([41]:lB).head?,Adj t c:=fun c f=>by
 have:c=41:=by simpa using f.symm
 subst this;exact h.1
def Oo {t:lB} (h:(Ar t).1=1) : ∀c∈([40]:lB).head?,Adj t c:=fun c f=>by
 have:c=40:=by simpa using f.symm
 subst this;exact ⟨fun _=>Ao,fun e=>(by rw [h] at e;cases e),fun e=>(by rw [h] at e;cases e)⟩
def Oq (k:Int):TokT (Rq k)/\(Ar (Rq k)).1=1:=by
 unfold Rq
 repeat' split
 all_goals exact ⟨A3 Ao,Ao⟩
def dE (k:Int):TokT (Xw k):=by unfold Xw;split<;>exact A3 Ao
def ZE (k:Int):TokT (Ti k):=by unfold Ti;split<;>exact A3 Ao
def VM {k:Int} (h:k=40\/k=41\/k=42\/k=56\/k=43):TokT (DF k):=by
 rcases h with rfl|rfl|rfl|rfl|rfl<;>exact A3 Ao
def K9 {x:Nd} (h:x.isVar=true):x=JL x.name/\AS x.name=true/\x.text=x.name:=by
 obtain ⟨k,n,s,l⟩:=x;simp only [Nd.isVar,Nd.kind,ke,beq_iff_eq] at h;obtain ⟨rfl,h⟩:=h;unfold Nd.isExpr at h;rw [At Ao,AH Ao] at h;simp only [ke,named,beq_iff_eq,lq] at h;obtain ⟨⟨rfl,f⟩,rfl⟩:=h;refine ⟨rfl,f,?_⟩;unfold Nd.text;rw [At Ao,AH rfl];rfl
def Qb : ∀r:List Nd,(∀x∈r,x.isVar=true)->flat (Hg (r.map md))=DB false r
 | [],_=>rfl
 | x::r,h=>by
  have f:=K9 (h x A6);simp only [lr,Hg,flat,DB,Qb r (fun y E=>h y (by simp [E])),f.2.2];simp
def Qc : ∀f:List lB,toks (Hg f)=OP f
 | []=>rfl
 | m::r=>by
  simp only [Hg,toks,Qc r];rfl
def VN : ∀(h:List lB) (f:lB) (r:List Pc),(Ar f).1=1->(∀m∈h,AS m=true)->(∀m,(Ar m).1=1->wf (some m) r)->wf (some f) (Hg h++r)
 | [],f,r,E,_,F=>F f E
 | m::h,f,r,E,L,F=>by
  have M:=Cy (L m A6);simp only [Hg,kD];exact ED (A3 Ao) (LO (El E)) (CJ (Cw M.1 (VN h m r M.2 (fun x N=>L x (by simp [N])) F)))
def Tk : ∀(f:List lB) (h:lB) (u:lB),B9 (some h) (Hg f++[.tk u])=some u
 | [],h,u=>rfl
 | m::f,h,u=>by
  simp only [Hg,kD,B9];exact Tk f m u
def Dh {x:Nd} (h:x.isPlace=true):x.isExpr=true:=by
 simp only [Nd.isPlace,ke] at h;exact h.2
def FO {x:Nd} (h:x.isExpr=true):Nice x.pcs:=ZC (x.size+1) x Aa h
def FP {x:Nd} (h:x.isExpr=true):flat x.pcs=x.text:=ZD (x.size+1) x Aa h
def Tl {x:Nd} (h:x.isExpr=true) (f:x.wf):G (.ex 1) (toks x.pcs) x:=(Th (x.size+1) x Aa h f).ex (fun E=>LM E)
def Tm {x:Nd} (h:x.isPlace=true) (f:x.wf):G .pl (toks x.pcs) x:=(Th (x.size+1) x Aa (Dh h) f).pl h
structure SaidS (t:Nd) (d:Nat):Prop where
 flat:flat (t.spcs d)=t.stmtT d
 nice:NiceS (t.spcs d)
 gs:GS .st (toks (t.spcs d)) [t]
structure SaidL (t:Nd) (d:Nat):Prop where
 flat:flat (t.lpcs d)=t.linesT d
 nice:NiceL (t.lpcs d)
 gs:GS .ls (toks (t.lpcs d)) t.kids
def ZF {t:Nd} {d:Nat} {A:List Pc} {B:lB} (e:t.spcs d=A) (f:t.stmtT d=B) (h:Bk.flat A=B/\NiceS A/\GS .st (toks A) [t]):SaidS t d:=by
 subst e f;exact ⟨h.1,h.2.1,h.2.2⟩
def Qd (d:Nat) : ∀l:List Nd,(∀t∈l,SaidS t d)->flat (Fs l d)=BX l d/\NiceL (Fs l d)/\GS .ls (toks (Fs l d)) l
 | [],_=>⟨by simp [Fs,BX,flat],⟨by simp [Fs,wf],by simp [Fs,B9]⟩,by simp only [Fs,toks];exact GS.ls0⟩
 | t::r,h=>by
  obtain ⟨h1,F,L⟩:=Qd d r (fun x M=>h x (by simp [M]));have E:=h t A6;obtain ⟨u,e,N⟩:=E.nice.fin;have f : ∀c∈([59]:lB).head?,Adj u c:=fun c O=>by
   have:c=59:=by simpa using O.symm
   subst this;exact N.2.2.1
  refine ⟨?_,⟨?_,?_⟩,?_⟩
  . simp only [Fs,BX,flat,Bq,E.flat,h1];simp
  . simp only [Fs];refine VL ?_;rw [DM,e];exact ⟨E.nice.wf,ED (A3 Ao) f (Qa Ao Ao F.wf)⟩
  . simp only [Fs];rw [Tj,C6,e];simp only [B9];exact F.fin
  . simp only [Fs,toks,Br];exact GS.ls1 E.gs L
def SaidL.bl {y:Nd} {d:Nat} (h:SaidL y d) (f:y.isBlock=true) (e:Nat):GS .bl (toks (GQ (y.lpcs d) e)) [y]:=by
 rw [gT];have:=GS.bl h.gs;obtain ⟨k,n,s,l⟩:=y;unfold Nd.isBlock at f;simp only [ke,plain,beq_iff_eq,lq] at f;obtain ⟨⟨rfl,rfl,rfl⟩,-⟩:=f;exact this
def Tn {k:Int} (h:k=40\/k=41\/k=42\/k=56):CA (DF k)=k:=by
 rcases h with rfl|rfl|rfl|rfl<;>decide
def Qe : ∀ {l:List Nd},Bc l -> ∀x∈l,x.wf
 | [],_,x,f=>by cases f
 | t::r,h,x,f=>by
  rcases kF.1 f with rfl|f
  . exact h.1
  . exact Qe h.2 x f
def Mu : ∀ {l:List Nd} {x:Nd},x∈l->x.size<=Aj l
 | [],x,f=>by cases f
 | t::r,x,f=>by
  simp only [Aj];rcases kF.1 f with rfl|f
  . omega
  . have:=Mu f;omega
def Mw : ∀ {l:List Nd},DU l=true -> ∀x∈l,x.isStmt=true
 | [],_,x,f=>by cases f
 | t::r,h,x,f=>by
  simp only [DU,ke] at h;rcases kF.1 f with rfl|f
  . exact h.1
  . exact Mw h.2 x f
def UM (N:Nat):(∀(t:Nd) (d:Nat),t.size<N->t.isStmt=true->t.wf->SaidS t d)/\(∀(t:Nd) (d:Nat),t.size<N->t.isBlock=true->t.wf->SaidL t d):=by
 induction N with
 | zero=>exact ⟨fun t d h=>by omega,fun t d h=>by omega⟩
 | succ N ih=>
  obtain ⟨iS,iB⟩:=ih;constructor
  . intro t d hs he hw;obtain ⟨k,n,s,l⟩:=t;simp only [Nd.size] at hs;have hwl:=hw.2.2.2.2.2.2;unfold Nd.isStmt at he;by_cases c1:k=40\/k=41\/k=42\/k=56
    . rw [AH c1] at he;simp only [ke,plain,beq_iff_eq,lq] at he;obtain ⟨⟨rfl,rfl⟩,hx⟩:=he;split at hx
      . rename_i x y;simp only [ke] at hx;have c1':k=40\/k=41\/k=42\/k=56\/k=43:=by omega
        have e:(Nd.mk k 0 [] [x,y]).spcs d=x.pcs++(.sp [32]::.tk (DF k)::.sp [32]::y.pcs):=by
         conv=>lhs;unfold Nd.spcs
         rw [AH c1']
        have et:(Nd.mk k 0 [] [x,y]).stmtT d=x.text++[32]++DF k++[32]++y.text:=by
         conv=>lhs;unfold Nd.stmtT
         rw [AH c1']
        have nx:=FO (Dh hx.1);have ny:=FO hx.2;refine ⟨?_,⟨?_,?_⟩,?_⟩
        . rw [e,et];simp only [Bq,flat,FP (Dh hx.1),FP hx.2];simp
        . rw [e];exact nx.then_ DA (fun t ct=>CJ (Cw (VM c1') (CJ (ny.wf none DA))))
        . rw [e];obtain ⟨u,hu,cu⟩:=ny.fin none;exact ⟨u,nx.end_ (fun t=>hu),cu⟩
        . rw [e];simp only [Br,toks];have:=GS.upd (t:=DF k) (Tm hx.1 hwl.1) (by rw [Tn c1];omega) (Tl hx.2 hwl.2.1);rwa [Tn c1] at this
      . cases hx
    rw [At c1] at he;by_cases c2:k=43
    . rw [AH c2] at he;subst c2;simp only [ke,plain,beq_iff_eq,lq] at he;obtain ⟨⟨rfl,rfl⟩,hx⟩:=he;split at hx
      . rename_i x y;simp only [ke] at hx;have e:(Nd.mk 43 0 [] [x,y]).spcs d=x.pcs++(.sp [32]::.tk (DF 43)::.sp [32]::y.pcs):=by
         conv=>lhs;unfold Nd.spcs
         rw [AH Ao]
        have et:(Nd.mk 43 0 [] [x,y]).stmtT d=x.text++[32]++DF 43++[32]++y.text:=by
         conv=>lhs;unfold Nd.stmtT
         rw [AH Ao]
        have nx:=FO (Dh hx.1);have ny:=FO (Dh hx.2);refine ⟨?_,⟨?_,?_⟩,?_⟩
        . rw [e,et];simp only [Bq,flat,FP (Dh hx.1),FP (Dh hx.2)];simp
        . rw [e];exact nx.then_ DA (fun t ct=>CJ (Cw (VM Ao) (CJ (ny.wf none DA))))
        . rw [e];obtain ⟨u,hu,cu⟩:=ny.fin none;exact ⟨u,nx.end_ (fun t=>hu),cu⟩
        . rw [e];simp only [Br,toks];exact GS.swap (Tm hx.1 hwl.1) (Tm hx.2 hwl.2.1)
      . cases hx
    rw [At c2] at he;by_cases c3:k=44\/k=45
    . rw [AH c3] at he;simp only [ke,named,beq_iff_eq] at he;obtain ⟨⟨rfl,hn⟩,hx⟩:=he;split at hx
      . rename_i x;have e:(Nd.mk k 0 s [x]).spcs d = .tk (Rq k)::.sp [32]::(x.pcs++[.tk [44],.sp [32],.tk s]):=by
         conv=>lhs;unfold Nd.spcs
         rw [At Aa,AH c3]
        have et:(Nd.mk k 0 s [x]).stmtT d=CY k++x.text++[44,32]++s:=by
         conv=>lhs;unfold Nd.stmtT
         rw [At Aa,AH c3]
        have hk:CY k=Rq k++[32]:=by rcases c3 with rfl|rfl<;>decide
        have nx:=FO (Dh hx);have hnt:=Cy hn;refine ⟨?_,⟨?_,?_⟩,?_⟩
        . rw [e,et,hk];simp only [Bq,flat,FP (Dh hx)];simp
        . rw [e];exact Cw (Oq k).1 (CJ (nx.then_ DA (fun t ct=>ED (A3 Ao) (LO ct) (CJ (Cw hnt.1 trivial)))))
        . rw [e];exact ⟨s,nx.end_ (p:=none) (fun t=>rfl),El hnt.2⟩
        . rw [e];simp only [Br,toks];exact GS.stack (by rcases c3 with rfl|rfl<;>decide) (Tm hx hwl.1) hn
      . cases hx
    rw [At c3] at he;by_cases c4:46<=k/\k<=49
    . rw [AH c4] at he;simp only [ke,plain,beq_iff_eq,lq] at he;obtain ⟨⟨rfl,rfl⟩,hx⟩:=he;split at hx
      . rename_i x;have e:(Nd.mk k 0 [] [x]).spcs d = .tk (Rq k)::.sp [32]::x.pcs:=by
         conv=>lhs;unfold Nd.spcs
         rw [At Aa,At Aa,AH c4]
        have et:(Nd.mk k 0 [] [x]).stmtT d=CY k++x.text:=by
         conv=>lhs;unfold Nd.stmtT
         rw [At Aa,At Aa,AH c4]
        have hk:CY k=Rq k++[32]/\(Rq k,k)∈Jl:=by
         have:k=46\/k=47\/k=48\/k=49:=by omega
         rcases this with rfl|rfl|rfl|rfl<;>decide
        have nx:=FO (Dh hx);refine ⟨?_,⟨?_,?_⟩,?_⟩
        . rw [e,et,hk.1];simp only [flat,FP (Dh hx)];simp
        . rw [e];exact Cw (Oq k).1 (CJ (nx.wf none DA))
        . rw [e];exact nx.fin none
        . rw [e];simp only [toks];exact GS.tape hk.2 (Tm hx hwl.1)
      . cases hx
    rw [At c4] at he;by_cases c5:k=50\/k=51
    . rw [AH c5] at he;simp only [ke,named,beq_iff_eq,decide_eq_true_eq,lG] at he;obtain ⟨⟨⟨rfl,hn⟩,h8⟩,hv⟩:=he;have hnt:=Cy hn;have hk:CY k=Rq k++[32]/\(Rq k,k)∈FG:=by rcases c5 with rfl|rfl<;>decide
      have e:(Nd.mk k 0 s l).spcs d = .tk (Rq k)::.sp [32]::.tk s::.tk [40]::(MR l++[.tk [41]]):=by
       conv=>lhs;unfold Nd.spcs
       rw [At Aa,At Aa,At Aa,AH c5]
      have et:(Nd.mk k 0 s l).stmtT d=CY k++s++[40]++DB true l++[41]:=by
       conv=>lhs;unfold Nd.stmtT
       rw [At Aa,At Aa,At Aa,AH c5]
      rw [hk.1] at et;refine ZF e et ?_;cases l with
      | nil=>
       simp only [MR];refine ⟨?_,⟨?_,?_⟩,?_⟩
       . simp [flat,DB]
       . exact Cw (Oq k).1 (CJ (Cw hnt.1 (ED (A3 Ao) (Oo hnt.2) (ED (A3 Ao) (LP (DO Ao)) trivial))))
       . exact ⟨[41],rfl,DO Ao⟩
       . simp only [toks,lk];exact GS.call0 hk.2 hn
      | cons x r=>
       have hx:=K9 (hv x A6);have hr : ∀y∈r,y.isVar=true:=fun y hy=>hv y (by simp [hy])
       have hrn : ∀m∈r.map md,AS m=true:=fun m hm=>by
        obtain ⟨y,hy,rfl⟩:=List.mem_map.1 hm;exact (K9 (hr y hy)).2.1
       have hxt:=Cy hx.2.1;simp only [MR];refine ⟨?_,⟨?_,?_⟩,?_⟩
       . simp only [kD,flat,Bq,Qb r hr,DB,hx.2.2];simp
       . simp only [kD];exact Cw (Oq k).1 (CJ (Cw hnt.1 (ED (A3 Ao) (Oo hnt.2) (ED hxt.1 (fun c hc=>Em Ao (FY (G2 hx.2.1 c hc)))
          (VN _ _ _ hxt.2 hrn (fun m hm=>ED (A3 Ao) (LP (El hm)) trivial))))))
       . refine ⟨[41],?_,DO Ao⟩;simp only [kD,B9];exact Tk _ _ _
       . simp only [kD,toks,Br,Qc];have hg:=GS.call1 (kw:=Rq k) (m:=s) (u:=x.name) (kd:=k) (l:=r.map md) hk.2 hn hx.2.1 hrn (by simp only [List.length_map,kf] at h8 ⊢;omega);have hl:(x.name::r.map md).map JL=x::r:=by
          rw [lr,<-hx.1,List.map_map];congr 1
          conv=>rhs;rw [<-List.map_id r]
          refine List.map_congr_left (fun y hy=>?_);exact (K9 (hr y hy)).1.symm
         rw [hl] at hg;exact hg
    rw [At c5] at he;by_cases c6:k=52\/k=53
    . rw [AH c6] at he;simp only [ke,plain,beq_iff_eq,lq] at he;obtain ⟨⟨rfl,rfl⟩,hx⟩:=he;split at hx
      . rename_i x y z u;simp only [ke] at hx;obtain ⟨⟨⟨a,f⟩,b⟩,g⟩:=hx;simp only [Aj] at hs;have by_:=iB y (d+1) Aa f hwl.2.1;have bz:=iB z (d+1) Aa b hwl.2.2.1;have e:(Nd.mk k 0 [] [x,y,z,u]).spcs d = .tk (Rq k)::.sp [32]::(x.pcs++(GQ (y.lpcs (d+1)) d++(.sp [32]::.tk (Xw k)::(GQ (z.lpcs (d+1)) d++(.sp [32]::.tk (Ti k)::.sp [32]::u.pcs))))):=by
         conv=>lhs;unfold Nd.spcs
         rw [At Aa,At Aa,At Aa,At Aa,AH c6]
        have et:(Nd.mk k 0 [] [x,y,z,u]).stmtT d=Rq k++[32]++x.text++([32,123,10]++y.linesT (d+1)++Du d++[125])++([32]++Xw k)++([32,123,10]++z.linesT (d+1)++Du d++[125])++([32]++Ti k++[32])++u.text:=by
         conv=>lhs;unfold Nd.stmtT
         rw [At Aa,At Aa,At Aa,At Aa];rcases c6 with rfl|rfl
         . rw [AH rfl];rfl
         . rw [At Ao,AH rfl];rfl
        have nx:=FO a;have nu:=FO g;refine ⟨?_,⟨?_,?_⟩,?_⟩
        . rw [e,et];simp only [flat,Bq,LN,FP a,FP g,by_.flat,bz.flat];simp
        . rw [e];refine Cw (Oq k).1 (CJ (nx.then_ DA (fun t ct=>by_.nice.wf_b d ?_ _)));refine CJ (Cw (dE k) (bz.nice.wf_b d ?_ _));exact CJ (Cw (ZE k) (CJ (nu.wf none DA)))
        . rw [e];obtain ⟨v,hv,cv⟩:=nu.fin none;refine ⟨v,?_,cv⟩;show B9 none (x.pcs++_)=_;refine nx.end_ (fun t=>?_);rw [by_.nice.end_b];show B9 (some (Xw k)) (GQ _ _++_)=_;rw [bz.nice.end_b];exact hv
        . rw [e];simp only [toks,Br];exact GS.branch (by rcases c6 with rfl|rfl<;>decide) (Tl a hwl.1) (by_.bl f d) (bz.bl b d) (Tl g hwl.2.2.2.1)
      . cases hx
    rw [At c6] at he;by_cases c7:k=54
    . rw [AH c7] at he;subst c7;simp only [ke,named,beq_iff_eq] at he;obtain ⟨⟨rfl,hn⟩,hx⟩:=he;split at hx
      . rename_i x y z;simp only [ke] at hx;obtain ⟨⟨a,f⟩,b⟩:=hx;simp only [Aj] at hs;have by_:=iB y (d+1) Aa f hwl.2.1;have e:(Nd.mk 54 0 s [x,y,z]).spcs d = .tk [108,111,99,97,108]::.sp [32]::.tk s::.sp [32]::.tk [61]::.sp [32]::(x.pcs++(GQ (y.lpcs (d+1)) d++(.sp [32]::.tk [100,101,108,111,99,97,108]::.sp [32]::z.pcs))):=by
         conv=>lhs;unfold Nd.spcs
         rw [At Ao,At Ao,At Ao,At Ao,At Ao,AH rfl]
        have et:(Nd.mk 54 0 s [x,y,z]).stmtT d=[108,111,99,97,108,32]++s++[32,61,32]++x.text++([32,123,10]++y.linesT (d+1)++Du d++[125])++[32,100,101,108,111,99,97,108,32]++z.text:=by
         conv=>lhs;unfold Nd.stmtT
         rw [At Ao,At Ao,At Ao,At Ao,At Ao,At Ao,AH rfl];rfl
        have nx:=FO a;have nz:=FO b;have hnt:=Cy hn;refine ⟨?_,⟨?_,?_⟩,?_⟩
        . rw [e,et];simp only [flat,Bq,LN,FP a,FP b,by_.flat];simp
        . rw [e];refine Cw (A3 Ao) (CJ (Cw hnt.1 (CJ (Cw (A3 Ao) (CJ (nx.then_ DA (fun t ct=>by_.nice.wf_b d ?_ _)))))));exact CJ (Cw (A3 Ao) (CJ (nz.wf none DA)))
        . rw [e];obtain ⟨v,hv,cv⟩:=nz.fin none;refine ⟨v,?_,cv⟩;show B9 none (x.pcs++_)=_;refine nx.end_ (fun t=>?_);rw [by_.nice.end_b];exact hv
        . rw [e];simp only [toks,Br];exact GS.local_ hn (Tl a hwl.1) (by_.bl f d) (Tl b hwl.2.2.1)
      . cases hx
    rw [At c7] at he;by_cases c8:k=55
    . rw [AH c8] at he;subst c8;simp only [ke,named,beq_iff_eq] at he;obtain ⟨⟨rfl,hn⟩,hx⟩:=he;split at hx
      . rename_i x;simp only [Aj] at hs;have bx:=iB x (d+1) Aa hx hwl.1;have e:(Nd.mk 55 0 s [x]).spcs d = .tk [108,111,99,97,108]::.sp [32]::.tk [115,116,97,99,107]::.sp [32]::.tk s::GQ (x.lpcs (d+1)) d:=by
         conv=>lhs;unfold Nd.spcs
         rw [At Ao,At Ao,At Ao,At Ao,At Ao,At Ao,AH rfl]
        have et:(Nd.mk 55 0 s [x]).stmtT d=[108,111,99,97,108,32,115,116,97,99,107,32]++s++([32,123,10]++x.linesT (d+1)++Du d++[125]):=by
         conv=>lhs;unfold Nd.stmtT
         rw [At Ao,At Ao,At Ao,At Ao,At Ao,At Ao,At Ao,AH rfl];rfl
        have hnt:=Cy hn;refine ⟨?_,⟨?_,?_⟩,?_⟩
        . rw [e,et];simp only [flat,LN,bx.flat];simp
        . rw [e];have:=bx.nice.wf_b d (r:=[]) trivial (some s);rw [ll] at this;exact Cw (A3 Ao) (CJ (Cw (A3 Ao) (CJ (Cw hnt.1 this))))
        . rw [e];refine ⟨[125],?_,DO Ao⟩;have:=bx.nice.end_b d [] (some s);rw [ll] at this;exact this
        . rw [e];simp only [toks];exact GS.lstack hn (bx.bl hx d)
      . cases hx
    . rw [At c8] at he;cases he
  . intro t d hs he hw;obtain ⟨k,n,s,l⟩:=t;simp only [Nd.size] at hs;have hwl:=hw.2.2.2.2.2.2;unfold Nd.isBlock at he;simp only [ke] at he;have hr:=Qd d l (fun t ht=>iS t d (by have:=Mu ht;omega) (Mw he.2 t ht) (Qe hwl t ht));have e:(Nd.mk k n s l).lpcs d=Fs l d:=by unfold Nd.lpcs;rfl
    have et:(Nd.mk k n s l).linesT d=BX l d:=by unfold Nd.linesT;rfl
    refine ⟨?_,?_,?_⟩
    . rw [e,et];exact hr.1
    . rw [e];exact hr.2.1
    . rw [e];exact hr.2.2
def Os {t:Nd} (f:t.isBlock=true) (h:t.wf) (d:Nat):SaidL t d:=(UM (t.size+1)).2 t d Aa f h
inductive GV:CP->VD->Prop where
 | int {m:lB}:AS m=true->GV [[105,110,116],m] ⟨m,1,0⟩
 | stack {m:lB}:AS m=true->GV [[115,116,97,99,107],m] ⟨m,3,0⟩
 | array {m t:lB}:AS m=true->BW t=true->1<=A7 t->A7 t<=16->GV [[97,114,114,97,121],m,[91],t,[93]] ⟨m,2,(A7 t:Int)⟩
inductive GVs:CP->List VD->Prop where
 | nil:GVs [] []
 | cons {a b:CP} {v:VD} {l:List VD}:GV a v->GVs b l->GVs (a++b) (v::l)
inductive GC:CP->List VD->Prop where
 | nil:GC [] []
 | cons {a b:CP} {v:VD} {l:List VD}:GV a v->GC b l->GC ([44]::(a++b)) (v::l)
inductive GPr:CP->PD->Prop where
 | p0 {m:lB} {b:CP} {x:Nd}:AS m=true->GS .bl b [x]->GPr ([112,114,111,99]::m::[40]::[41]::b) ⟨m,[],x⟩
 | p1 {m:lB} {a c b:CP} {v:VD} {l:List VD} {x:Nd}:AS m=true->GV a v->GC c l->GS .bl b [x]->GPr ([112,114,111,99]::m::[40]::(a++(c++([41]::b)))) ⟨m,v::l,x⟩
inductive GPs:CP->List PD->Prop where
 | nil:GPs [] []
 | cons {a b:CP} {p:PD} {l:List PD}:GPr a p->GPs b l->GPs (a++b) (p::l)
inductive GPG:CP->PG->Prop where
 | mk {a b c:CP} {vs:List VD} {ps:List PD} {x:Nd}:GVs a vs->GPs b ps->GS .bl c [x]->GPG (a++(b++([109,97,105,110]::c))) ⟨vs,ps,x⟩
section
variable {ts:List Tok} {n:Int}
def GV.reads (V:AZ ts) {a:CP} {v:VD} (h:GV a v) {σ:PS} {rest:CP} (O:rem ts σ=a++rest) (E:σ.err=0):Bp ts n σ=(v,Df σ a.length):=by
 cases h with
 | @int m L=>
  have f:rem ts σ=[105,110,116]::(m::rest):=O;unfold Bp;rw [AH (by rw [AX f E];decide),BI,Cx (AJ f) E L,Bd];rfl
 | @stack m L=>
  have f:rem ts σ=[115,116,97,99,107]::(m::rest):=O;unfold Bp;rw [At (by rw [AX f E];decide),AH (by rw [AX f E];decide),BI,Cx (AJ f) E L,Bd];rfl
 | @array m t L X h1 Z=>
  have f:rem ts σ=[97,114,114,97,121]::(m::[91]::t::[93]::rest):=O;have M:=AJ f;have N:=AJ M;have F:=AJ N;have U:=AJ F;unfold Bp;rw [At (by rw [AX f E];decide),At (by rw [AX f E];decide),AH (by rw [AX f E];decide),BI,Cx M E L];simp only;rw [A4 N E];have Y:BP ts n 1 16 (Df (Df (Df σ 1) 1) 1)=((A7 t:Int),Df (Df (Df (Df σ 1) 1) 1) 1):=by
   unfold BP;rw [AH ((GL V F E).2 X),B7 F E,AH ⟨Aa,Aa,Aa⟩];rfl
  rw [Y];simp only;rw [A4 U E,Bd,Bd,Bd,Bd];rfl
def GV.head {a:CP} {v:VD} (h:GV a v) : ∃t r,a=t::r/\(t=[105,110,116]\/t=[97,114,114,97,121]\/t=[115,116,97,99,107])/\r≠[]:=by
 cases h<;>exact ⟨_,_,rfl,A6,A6⟩
def Ot {σ:PS} (f:σ.at_<=ts.length) (h:σ.err=0):Cb ts σ=(decide (((rem ts σ).head?).getD []=[105,110,116])||decide (((rem ts σ).head?).getD []=[97,114,114,97,121])||decide (((rem ts σ).head?).getD []=[115,116,97,99,107])):=by
 unfold Cb;rw [Gc f h,Gc f h,Gc f h]
def Xy (V:AZ ts) {a:CP} {l:List VD} (h:GVs a l) : ∀(k:Nat) (acc:List VD) (σ:PS) (rest:CP),σ.at_<=ts.length->σ.err=0->rem ts σ=a++rest->(∀t∈rest.head?,t≠[105,110,116]/\t≠[97,114,114,97,121]/\t≠[115,116,97,99,107])->acc.length+l.length<=32->a.length+1<=k->Do ts n k acc σ=(acc++l,Df σ a.length):=by
 induction h with
 | nil=>
  intro k acc σ rest F E f L _ N;obtain ⟨k,rfl⟩ : ∃j,k=j+1:=⟨k-1,Aa⟩;rw [Do,At]
  . simp [Df]
  . rw [Ot F E,f,lk];cases rest with
    | nil=>decide
    | cons t r=>
     obtain ⟨h1,X,Y⟩:=L t rfl;simp [h1,X,Y]
 | @cons a b v l O hl Z=>
  intro k acc σ rest F E f L M N;obtain ⟨k,rfl⟩ : ∃j,k=j+1:=⟨k-1,Aa⟩;rw [kA] at f;obtain ⟨t,r,U,ht,-⟩:=O.head;simp only [kf,j9] at M N ⊢;rw [Do,AH]
  . simp only;rw [At Aa,O.reads V f E];have aa:1<=a.length:=by rw [U];simp
    simp only;rw [Z k (acc++[v]) (Df σ a.length) rest (GM F f) E (Cv f) L (by simp only [j9,kf,ki];omega) Aa,Bd];simp
  . rw [Ot F E,f,U];rcases ht with rfl|rfl|rfl<;>simp
def To (U:AZ ts) {a:CP} {l:List VD} (h:GC a l) : ∀(k:Nat) (acc:List VD) (σ:PS) (rest:CP),σ.at_<=ts.length->σ.err=0->rem ts σ=a++rest->(∀t∈rest.head?,t≠[44])->acc.length+l.length<=8->a.length+1<=k->Bi ts n k acc σ=(acc++l,Df σ a.length):=by
 induction h with
 | nil=>
  intro k acc σ rest N F L M _ O;obtain ⟨k,rfl⟩ : ∃j,k=j+1:=⟨k-1,Aa⟩;rw [Bi,At]
  . simp [Df]
  . rw [Gc N F,L,lk];cases rest with
    | nil=>decide
    | cons t r=>have:=M t rfl;simp [this]
 | @cons a b v l V Z X=>
  intro k acc σ rest N F L M Y O;obtain ⟨k,rfl⟩ : ∃j,k=j+1:=⟨k-1,Aa⟩
  have f:rem ts σ=[44]::(a++(b++rest)):=by rw [L];simp
  have E:=AJ f;simp only [kf,j9] at Y O ⊢;rw [Bi,AH (by rw [AX f F];decide)];simp only;rw [At Aa,BI,V.reads U E F];simp only;rw [X k (acc++[v]) (Df (Df σ 1) a.length) rest (GM (C5 f) E) F (Cv E) M (by simp only [j9,kf,ki];omega) Aa,Bd,Bd];refine Prod.ext A6 ?_;show Df σ _=Df σ _;congr 1;omega
def VO {t u:lB} {r:CP} (h:u≠t) : ∀x∈(u::r).head?,x≠t:=fun x f=>by
 have:u=x:=by simpa using f
 rw [<-this];exact h
def LQ (E:AZ ts) {b:CP} {x:Nd} (h:GS .bl b [x]) {σ:PS} {k:Nat} {rest:CP} (F:σ.at_<=ts.length) (f:σ.err=0) (L:rem ts σ=b++rest) (h1:x.depth<=80) (N:x.size<=2000) (M:4*b.length+4<=k):EZ ts n k σ=(x,Df σ b.length):=by
 have:=GO (h.reads (n:=n) E σ k rest F f L M);unfold EZ;rw [this];refine Prod.ext rfl ?_;show D7 x _ (Df σ b.length)=_;unfold D7;rw [At (by rw [cG,f];simp),At Aa,At Aa]
def GPr.head {a:CP} {p:PD} (h:GPr a p) : ∃r,a=[112,114,111,99]::r:=by
 cases h<;>exact ⟨_,rfl⟩
def Xz (U:AZ ts) {a:CP} {p:PD} (h:GPr a p) {σ:PS} {k:Nat} {rest:CP} (hw:σ.at_<=ts.length) (E:σ.err=0) (Z:rem ts σ=a++rest) (h1:p.body.depth<=80) (h2:p.body.size<=2000) (h3:p.params.length<=8) (hk:4*a.length<=k):Dk ts n k σ=(p,Df σ a.length):=by
 cases h with
 | @p0 m b x V X=>
  have L:rem ts σ=[112,114,111,99]::(m::[40]::[41]::(b++rest)):=Z;have M:=AJ L;have F:=AJ M;have f:=AJ F;have N:=AJ f;simp only [kf] at hk ⊢;unfold Dk;rw [A4 L E,Cx M E V];simp only;rw [A4 F E,AH (by rw [AX f E];decide)];simp only;rw [BI,LQ U X (C5 f) E N h1 h2 Aa,Bd,Bd,Bd,Bd];refine Prod.ext rfl ?_;show Df σ _=Df σ _;congr 1;omega
 | @p1 m a c b v l x V hv hc X=>
  have L:rem ts σ=[112,114,111,99]::(m::[40]::(a++(c++([41]::(b++rest))))):=by rw [Z];simp
  have M:=AJ L;have F:=AJ M;have f:=AJ F;have N:=Cv f;have O:=Cv N;have Y:=AJ O;obtain ⟨t,r,ea,ht,-⟩:=hv.head;simp only [kf,j9] at hk h3 ⊢;unfold Dk;rw [A4 L E,Cx M E V];simp only;have w3:=C5 F;have w4:=GM w3 f;have w5:=GM w4 N;rw [A4 F E,At (by rw [Gc w3 E,f,ea];rcases ht with rfl|rfl|rfl<;>simp),hv.reads U f E];simp only;rw [To U hc k [v] _ _ w4 E N (VO Ao) (by simp only [kf,ki];omega) Aa];simp only;rw [A4 O E,LQ U X (C5 O) E Y h1 h2 Aa];simp only [Bd];refine Prod.ext rfl ?_;show Df σ _=Df σ _;congr 1;omega
def UN (X:AZ ts) {a:CP} {l:List PD} (h:GPs a l) : ∀(k:Nat) (acc:List PD) (σ:PS) (rest:CP),σ.at_<=ts.length->σ.err=0->rem ts σ=a++rest->(∀t∈rest.head?,t≠[112,114,111,99])->acc.length+l.length<=64->(∀p∈l,p.body.depth<=80/\p.body.size<=2000/\p.params.length<=8)->4*a.length+1<=k->B0 ts n k acc σ=(acc++l,Df σ a.length):=by
 induction h with
 | nil=>
  intro k acc σ rest F L E M _ _ O;obtain ⟨k,rfl⟩ : ∃j,k=j+1:=⟨k-1,Aa⟩;rw [B0,At]
  . simp [Df]
  . rw [Gc F L,E,lk];cases rest with
    | nil=>decide
    | cons t r=>have:=M t rfl;simp [this]
 | @cons a b p l U hl Y=>
  intro k acc σ rest F L E M N f O;obtain ⟨k,rfl⟩ : ∃j,k=j+1:=⟨k-1,Aa⟩;rw [kA] at E;obtain ⟨r,V⟩:=U.head;obtain ⟨Z,q2,q3⟩:=f p A6;have aa:1<=a.length:=by rw [V];simp
  simp only [kf,j9] at N O ⊢;rw [B0,AH (by rw [Gc F L,E,V];simp)];simp only;rw [At Aa,Xz X U F L E Z q2 q3 Aa];simp only;rw [Y k (acc++[p]) (Df σ a.length) rest (GM F E) L (Cv E) M (by simp only [j9,kf,ki];omega) (fun q hq=>f q (by simp [hq])) Aa,Bd];simp
def Rl (M:AZ ts) {a:CP} {g:PG} (h:GPG a g) (N:g.vars.length<=32/\g.procs.length<=64) (Y : ∀p∈g.procs,p.body.depth<=80/\p.body.size<=2000/\p.params.length<=8) (h1:g.main.depth<=80) (Z:g.main.size<=2000) {σ:PS} {k:Nat} (hw:σ.at_<=ts.length) (L:σ.err=0) (O:rem ts σ=a) (hk:4*a.length+1<=k):BH ts n k σ=(g,Df σ a.length):=by
 cases h with
 | @mk a b c vs ps x hv F hx=>
  simp only at N Y h1 Z;simp only [j9,kf] at hk ⊢;have f:=Cv O;have E:=Cv f;have U:=AJ E;have w2:=GM hw O;have w3:=GM w2 f;unfold BH;rw [Xy M hv k [] σ _ hw L O (fun t V=>by
   cases F with
   | nil=>
    have:[109,97,105,110]=t:=by simpa using V
    subst this;decide
   | cons X _=>
    obtain ⟨r,e⟩:=X.head;rw [e] at V;have:[112,114,111,99]=t:=by simpa using V
    subst this;decide) (by simp only [ki];omega) Aa]
  simp only [lk];rw [UN M F k [] _ _ w2 L f (VO Ao) (by simp only [ki];omega) Y Aa];simp only [lk];rw [A4 E L,LQ M hx (C5 E) L (by rw [U,ll]) h1 Z Aa];simp only [Bd];refine Prod.ext rfl ?_;show Df σ _=Df σ _;congr 1;omega
end
def XA {s:lB} {ts:List Tok} {g:PG} (M : ¬ 65536<s.length) (h:Bn s 0=(ts,none)) (N:GPG (Mn ts) g) (E:g.vars.length<=32/\g.procs.length<=64) (O : ∀p∈g.procs,p.body.depth<=80/\p.body.size<=2000/\p.params.length<=8) (h1:g.main.depth<=80) (U:g.main.size<=2000):A8 s=(g,0,0):=by
 have f:=cY M (by rw [h]);rw [h] at f;simp only at f;have F:=FE s;have L:=Hx s;rw [f] at F L;simp only at F L;have V:=Rl (n:=s.length) F N E O h1 U (σ:=⟨0,0,0⟩) (k:=Gt s) (kC _) rfl gS (by rw [VK];unfold Gt;omega);unfold A8;rw [f];simp only;rw [V];have X:DE ts s.length (Df ⟨0,0,0⟩ (Mn ts).length)=Df ⟨0,0,0⟩ (Mn ts).length:=by unfold DE;rw [At (by simp [Df,VK])]
 simp only [X];rw [At (by simp [Df])]
def VD.pcs (v:VD):List Pc:=if v.kind=1 then [.tk [105,110,116],.sp [32],.tk v.name] else if v.kind=2 then [.tk [97,114,114,97,121],.sp [32],.tk v.name,.tk [91],.tk (Lib.itoa v.len),.tk [93]] else [.tk [115,116,97,99,107],.sp [32],.tk v.name]
def VD.shape {v:VD} (h:v.ok=true):AS v.name=true/\((v.kind=1/\v.len=0)\/(v.kind=3/\v.len=0)\/(v.kind=2/\1<=v.len/\v.len<=16)):=by
 simp only [VD.ok,ke] at h;refine ⟨h.1,?_⟩;have f:=h.2;split at f
 . rename_i c;have:v.len=0:=by simpa using f
   rcases c with c|c
   . exact kj ⟨c,this⟩
   . exact kp (kj ⟨c,this⟩)
 . split at f
   . rename_i c;simp only [ke,decide_eq_true_eq] at f;exact kp (kp ⟨c,f⟩)
   . cases f
def ZG {t:lB} {c:UInt8} (h:(Ar t).1=1) (f:FK c=false):Adj t c:=⟨fun _=>f,fun e=>(by rw [h] at e;cases e),fun e=>(by rw [h] at e;cases e)⟩
def ZH {c:UInt8} {l:lB} (h:c∈l.head?):c∈l:=by
 cases l with
 | nil=>cases h
 | cons x r=>
  have:x=c:=by simpa using h
  rw [this];simp
def Rm {v:VD} (h:v.ok=true):flat v.pcs=v.text/\Nice v.pcs/\GV (toks v.pcs) v:=by
 obtain ⟨F,Y⟩:=VD.shape h;obtain ⟨m,k,len⟩:=v;simp only at F Y;have L:=Cy F;have kw : ∀t:lB,(t=[105,110,116]\/t=[115,116,97,99,107]) -> ∀p,Oh p->wf p [.tk t,.sp [32],.tk m]:=fun t h p M=>by
  have N:TokT t:=by rcases h with rfl|rfl<;>exact A3 Ao
  refine ⟨N,fun u O c f=>Em (M u O) ?_,CJ (Cw L.1 trivial)⟩;rcases h with rfl|rfl
  . have:c=105:=by simpa using f.symm
    subst this;decide
  . have:c=115:=by simpa using f.symm
    subst this;decide
 rcases Y with ⟨rfl,rfl⟩|⟨rfl,rfl⟩|⟨rfl,h1,Z⟩
 . have e:VD.pcs ⟨m,1,0⟩=[.tk [105,110,116],.sp [32],.tk m]:=rfl;rw [e];exact ⟨by simp [flat,VD.text],⟨kw _ (kj rfl),fun p=>⟨m,rfl,El L.2⟩⟩,GV.int F⟩
 . have e:VD.pcs ⟨m,3,0⟩=[.tk [115,116,97,99,107],.sp [32],.tk m]:=rfl;rw [e];exact ⟨by simp [flat,VD.text],⟨kw _ (kp rfl),fun p=>⟨m,rfl,El L.2⟩⟩,GV.stack F⟩
 . have e:VD.pcs ⟨m,2,len⟩=[.tk [97,114,114,97,121],.sp [32],.tk m,.tk [91],.tk (Lib.itoa len),.tk [93]]:=rfl;rw [e,Ib Aa];obtain ⟨U,v2,v3⟩:=K8 len.toNat;have E:=Og v3 v2;refine ⟨by simp [flat,VD.text,Ib (show 0<=len by omega)],⟨fun p M=>?_,fun p=>⟨[93],rfl,DO Ao⟩⟩,?_⟩
   . refine ⟨A3 Ao,fun u O c f=>Em (M u O) ?_,CJ (Cw L.1 (ED (A3 Ao) (fun c f=>?_) (ED E.1 (fun c f=>?_) (ED (A3 Ao) (fun c f=>?_) trivial))))⟩
     . have:c=97:=by simpa using f.symm
       subst this;decide
     . have:c=91:=by simpa using f.symm
       subst this;exact ZG L.2 Ao
     . have V:=v2 c (ZH f);exact Em Ao (Oj V)
     . have:c=93:=by simpa using f.symm
       subst this;exact (Oi E.2).2.1
   . have X:BW (Lib.decDigits len.toNat)=true:=by
      cases hd:Lib.decDigits len.toNat with
      | nil=>exact absurd hd v3
      | cons c r=>simpa [BW] using v2 c (by rw [hd];simp)
     have:=GV.array (m:=m) (t:=Lib.decDigits len.toNat) F X (by rw [U];omega) (by rw [U];omega);rw [U,show ((len.toNat:Nat):Int)=len by omega] at this;exact this
def Ke:List VD->List Pc
 | []=>[]
 | v::r=>v.pcs++(.sp [10]::Ke r)
def Qf:Oh none:=fun t f=>by cases f
def Qg : ∀l:List VD,Dd l=true->flat (Ke l)=Kh VD.line l/\NiceL (Ke l)/\GVs (toks (Ke l)) l
 | [],_=>⟨rfl,⟨trivial,rfl⟩,GVs.nil⟩
 | v::r,h=>by
  unfold Dd at h;simp only [List.all_cons,ke] at h;obtain ⟨h1,f,E⟩:=Rm h.1;obtain ⟨F,i2,i3⟩:=Qg r h.2;refine ⟨?_,⟨?_,?_⟩,?_⟩
  . simp only [Ke,Bq,flat,h1,F];simp [Kh,VD.line]
  . exact f.then_ Qf (fun t _=>Qa Ao Ao i2.wf)
  . exact f.end_ (fun t=>by simp only [B9];exact i2.fin)
  . simp only [Ke,Br,toks];exact GVs.cons E i3
def EM:List VD->List Pc
 | []=>[]
 | v::r=>.tk [44]::.sp [32]::(v.pcs++EM r)
def Mx : ∀l:List VD,Dd l=true->flat (EM l)=CV VD.text false l/\(∀(t:lB) (R:List Pc),Hf t->wf (some [41]) R->wf (some t) (EM l++.tk [41]::R))/\GC (toks (EM l)) l/\(∀(t:lB) (R:List Pc),B9 (some t) (EM l++.tk [41]::R)=B9 (some [41]) R)
 | [],_=>⟨rfl,fun t R f E=>ED (A3 Ao) (LP f) E,GC.nil,fun _ _=>rfl⟩
 | v::r,h=>by
  unfold Dd at h;simp only [List.all_cons,ke] at h;obtain ⟨h1,F,L⟩:=Rm h.1;obtain ⟨M,i2,i3,i4⟩:=Mx r h.2;refine ⟨?_,fun t R f E=>?_,?_,fun t R=>?_⟩
  . simp only [EM,flat,Bq,h1,M,CV];simp
  . simp only [EM,kD,kA];exact ED (A3 Ao) (LO f) (CJ (F.then_ Qf (fun u N=>i2 u R N E)))
  . simp only [EM,toks,Br];exact GC.cons L i3
  . simp only [EM,kD,kA];simp only [B9];exact F.end_ (fun u=>i4 u R)
def FZ:List VD->List Pc
 | []=>[]
 | v::r=>v.pcs++EM r
def PD.pcs (p:PD):List Pc:=.tk [112,114,111,99]::.sp [32]::.tk p.name::.tk [40]::(FZ p.params++(.tk [41]::(GQ (p.body.lpcs 1) 0++[.sp [10]])))
def Tp:Oh (some [40]):=II Ao
mutual
def Qh : ∀(t:Nd) (d m:Int),0<=d->(t.lim d m).1=true->t.depth<=d
 | .mk _ _ s l,d,m,hd,h=>by
  simp only [Nd.lim] at h;split at h
  . simp at h
  . have:=La l (d-1) (m-1) Aa h;simp only [Nd.depth];omega
def La : ∀(l:List Nd) (d m:Int),0<=d->(Ct l d m).1=true->AT l<=d
 | [],d,m,hd,_=>by simp only [AT];exact hd
 | t::r,d,m,hd,h=>by
  simp only [Ct] at h;split at h
  . rename_i ht;have h1:=Qh t d m hd ht;have h2:=La r d _ hd h;simp only [AT];omega
  . simp at h
end
def IJ {t:Nd} (h:D9 t=true):t.isBlock=true/\t.depth<=80/\t.size<=2000:=by
 simp only [D9,ke] at h;have h1:=N3 t 80 2000 Aa h.1;have f:=J7 t 80 2000 Aa;exact ⟨h.2,Qh t 80 2000 Aa h.1,Aa⟩
def UO : ∀c∈([41]:lB).head?,Adj [40] c:=fun c f=>by
 have:c=41:=by simpa using f.symm
 subst this;exact Em Ao Ao
def dF {p:PD} (h:p.ok=true) (Z:p.wf):flat p.pcs=p.text/\NiceL p.pcs/\GPr (toks p.pcs) p:=by
 simp only [PD.ok,ke] at h;obtain ⟨⟨⟨U,-⟩,F⟩,X⟩:=h;obtain ⟨V,b2,b3⟩:=IJ X;have E:=Os V Z.body 1;have f:=Cy U;obtain ⟨m,ps,x⟩:=p;simp only at U F X V E f;have L:GS .bl (toks (GQ (x.lpcs 1) 0)) [x]:=E.bl V 0;have M : ∀q,wf q (GQ (x.lpcs 1) 0++[.sp [10]]):=fun q=>E.nice.wf_b 0 (Qa (r:=[]) Ao Ao trivial) q
 have N : ∀q,B9 q (GQ (x.lpcs 1) 0++[.sp [10]])=none:=fun q=>by rw [E.nice.end_b];rfl
 have O : ∀c∈([40]:lB).head?,Adj m c:=Oo f.2;cases ps with
 | nil=>
  refine ⟨?_,⟨?_,?_⟩,?_⟩
  . simp only [PD.pcs,PD.text,flat,Bq,FZ,LN,E.flat,CV];simp [Du]
  . exact Cw (A3 Ao) (CJ (Cw f.1 (ED (A3 Ao) O (ED (A3 Ao) (UO) (M _)))))
  . simp only [PD.pcs,FZ,lk,B9];exact N _
  . simp only [PD.pcs,toks,Br,FZ,lk,ll];exact GPr.p0 U L
 | cons v r=>
  unfold Dd at F;simp only [List.all_cons,ke] at F;obtain ⟨h1,Y,h3⟩:=Rm F.1;obtain ⟨i1,i2,i3,i4⟩:=Mx r F.2;refine ⟨?_,⟨?_,?_⟩,?_⟩
  . simp only [PD.pcs,PD.text,flat,Bq,FZ,LN,E.flat,CV,h1,i1];simp [Du]
  . refine Cw (A3 Ao) (CJ (Cw f.1 (ED (A3 Ao) O ?_)));simp only [FZ,kA];exact Y.then_ Tp (fun t ht=>i2 t _ ht (M _))
  . simp only [PD.pcs,FZ,B9,kA];exact Y.end_ (fun t=>by rw [i4];exact N _)
  . simp only [PD.pcs,toks,Br,FZ,ll,kA];exact GPr.p1 U h3 i3 L
def NiceL.app {A B:List Pc} (h:NiceL A) (k:NiceL B):NiceL (A++B):=⟨by rw [DM,h.fin];exact ⟨h.wf,k.wf⟩,by rw [C6,h.fin];exact k.fin⟩
def IK:List PD->List Pc
 | []=>[]
 | p::r=>p.pcs++IK r
def Ou : ∀l:List PD,l.all PD.ok=true->(∀p∈l,p.wf)->flat (IK l)=Kh PD.text l/\NiceL (IK l)/\GPs (toks (IK l)) l
 | [],_,_=>⟨rfl,⟨trivial,rfl⟩,GPs.nil⟩
 | p::r,h,f=>by
  simp only [List.all_cons,ke] at h;obtain ⟨h1,E,F⟩:=dF h.1 (f p A6);obtain ⟨L,i2,i3⟩:=Ou r h.2 (fun q M=>f q (by simp [M]));refine ⟨?_,E.app i2,?_⟩
  . simp only [IK,Bq,h1,L];simp [Kh]
  . simp only [IK,Br];exact GPs.cons F i3
def PG.pcs (g:PG):List Pc:=Ke g.vars++(IK g.procs++(.tk [109,97,105,110]::(GQ (g.main.lpcs 1) 0++[.sp [10]])))
def dG {g:PG} (h:g.ok=true) (E:g.wf):flat g.pcs=g.text/\wf none g.pcs/\GPG (toks g.pcs) g:=by
 simp only [PG.ok,ke,decide_eq_true_eq] at h;obtain ⟨⟨⟨⟨-,-⟩,M⟩,N⟩,O⟩:=h;obtain ⟨F,Y,Z⟩:=IJ O;have f:=Os F E.main 1;obtain ⟨U,v2,v3⟩:=Qg g.vars M;obtain ⟨V,L,X⟩:=Ou g.procs N E.procs;refine ⟨?_,?_,?_⟩
 . simp only [PG.pcs,PG.text,flat,Bq,U,V,LN,f.flat];simp [Du]
 . unfold PG.pcs;rw [DM,DM,v2.fin,L.fin];exact ⟨v2.wf,L.wf,Cw (A3 Ao) (f.nice.wf_b 0 (Qa (r:=[]) Ao Ao trivial) _)⟩
 . simp only [PG.pcs,toks,Br,ll];exact GPG.mk v3 X (f.bl F 0)
def OR {g:PG} (h:g.ok=true) (L:g.wf) (hl:g.text.length<=65536):A8 g.text=(g,0,0):=by
 obtain ⟨h1,M,N⟩:=dG h L;obtain ⟨us,F,O⟩:=LK _ none M;rw [h1] at F;simp only [PG.ok,ke,decide_eq_true_eq] at h;obtain ⟨⟨⟨⟨U,V⟩,-⟩,X⟩,Y⟩:=h;obtain ⟨-,Z,b3⟩:=IJ Y;refine XA Aa F (by rw [O];exact N) ⟨U,V⟩ (fun p E=>?_) Z b3;have f:=lG.1 X p E;simp only [PD.ok,ke,decide_eq_true_eq] at f;obtain ⟨-,c2,c3⟩:=IJ f.2;exact ⟨c2,c3,f.1.1.2⟩
def Kf (g:PG):P8 g.text:=by
 refine kp ⟨Kh VD.line g.vars++Kh PD.text g.procs++[109,97,105,110,32,123,10]++g.main.linesT 1++[125],?_⟩;unfold PG.text;simp
def Ov {e:EX} (h:e.valid) (E:e.g.wf) (F:e.g.text.length<=65536) (r:lB):Fu (e.text++r) = .ok (e,r):=by
 have L:=H9 e.g.text;have f:(0:Int)<=(Lib.countByte e.g.text 10:Nat):=by omega
 have h1:=ZB h f (e.g.text++r);have M:=On h f;obtain ⟨N,O,U⟩:=VJ h f Aa;have V:=UL (r:=r) (Kf e.g);have X:=OR h.2.1.1 E F;have Y:e.text++r=H4 e (Lib.countByte e.g.text 10:Nat)++(e.g.text++r):=by unfold EX.text;rw [kA]
 have Z:((Lib.countByte e.g.text 10:Nat):Int).toNat=Lib.countByte e.g.text 10:=Int.toNat_natCast _;unfold Fu;rw [Y,h1];simp only [M,U,Z,V,X,O];rw [At Ao,At (fun k=>k N),At Ao,At (fun k=>k trivial),At (fun k=>k trivial),At (fun k=>k h)]
def VP (e:EX) (r:lB):e.text++r≠[]:=by
 unfold EX.text H4;simp
def Ow : ∀(l acc:List EX) (n line:Nat),(∀e∈l,e.valid/\e.g.wf/\e.g.text.length<=65536) -> ¬JK (acc++l)->acc.length+l.length<=100->l.length<n->Dz n acc line (BF l)=(acc++l,0,0)
 | [],acc,n+1,line,_,_,_,_=>by
  rw [Dz,AH (show BF []=[] from rfl),ll]
 | e::l,acc,n+1,line,h,f,E,F=>by
  obtain ⟨h1,L,M⟩:=h e A6;have N:BF (e::l)=e.text++BF l:=rfl;have O:=Ov h1 L M (BF l);simp only [kf] at E F;have U : ¬GR acc e.name=true:=fun k=>f ⟨acc.length,A6,e,A6,by simpa using k⟩
  rw [N,Dz,At (VP e _),At Aa,O];simp only;rw [At U,Ow l (acc++[e]) n _ (fun x V=>h x (lx _ V)) (by rw [kA];exact f) (by simp only [j9,kf,ki];omega) Aa];rw [kA];rfl
def UP {l:List EX} (h : ∀e∈l,e.valid/\e.g.wf) (E : ¬JK l) (F:l.length<=100) (L : ¬ 65536<(BF l).length):Jn (BF l)=(l,0,0):=by
 unfold Jn;rw [At L];refine Ow l [] 101 1 (fun e f=>⟨(h e f).1,(h e f).2,?_⟩) E (by simpa using F) Aa;have h1:e.text.length<=(BF l).length:=by
  obtain ⟨a,b,rfl⟩:=List.append_of_mem f;unfold BF;rw [List.flatMap_append,List.flatMap_cons,j9,j9];omega
 have M:e.g.text.length<=e.text.length:=by unfold EX.text;rw [j9];omega
 omega
open Go.RowKit Go.Proofs
attribute [local irreducible] Go.Calls
def Rn (l:List EX):(EC l=(BF l,0)/\(∀e∈l,e.valid) /\ ¬JK l/\l.length<=100 /\ ¬ 65536<(BF l).length) \/ ∃k:Int,k≠0/\EC l=([],k):=by
 by_cases h1:100<l.length
 . exact kp ⟨5,Ao,Ml h1⟩
 by_cases f : ∀e∈l,e.valid
 . by_cases h:JK l
   . exact kp ⟨22,Ao,N5 h1 f h⟩
   . by_cases E:65536<(BF l).length
     . exact kp ⟨5,Ao,K4 h1 f h E⟩
     . exact kj ⟨LF h1 f h E,f,h,Aa,E⟩
 . simp only [Classical.not_forall] at f;obtain ⟨e,F,L⟩:=f;exact kp ⟨3,Ao,N4 h1 e F L⟩
def UQ (l:List EX) : ∃f h,EC l=(f,h)/\((h=0/\f=BF l/\(∀e∈l,e.valid) /\ ¬JK l/\l.length<=100 /\ ¬ 65536<(BF l).length)\/(h≠0/\f=[])):=by
 rcases Rn l with ⟨h1,E⟩|⟨k,h1,E⟩
 . exact ⟨_,_,h1,kj ⟨rfl,rfl,E⟩⟩
 . exact ⟨_,_,E,kp ⟨h1,rfl⟩⟩
def Fit (l:List EX):Prop:=l.length<=110 /\ ∀e∈l,e.g.vars.length<=40/\e.g.procs.length<=70
def GreatF (l:List EX) (w:wD):Ending->wD->Prop:=fun e w'=> ∃b:Bool,e = .returned (.bool b)/\(b=false->Fit l)/\Ext w w'
def GreatF.ret {l:List EX} {w w':wD} {e:Ending} (h:GreatF l w e w') : ∃v,e = .returned v:=by
 obtain ⟨_,h,-⟩:=h;exact ⟨_,h⟩
def Fit.wf {l:List EX} (h:Fit l) (E : ∀e∈l,e.name.length<=9223372036854775807/\e.g.wf) : ∀e∈l,e.wf:=fun e f=>⟨(E e f).1,(E e f).2,by have:=(h.2 e f).1;omega⟩
def UR (c:UInt8) (s:lB):(c∉s/\li s c = -1) \/ ∃a b,s=a++c::b/\c∉a/\li s c=a.length:=by
 by_cases h:c∈s
 . obtain ⟨a,b,rfl,f⟩:=List.eq_append_cons_of_mem h;exact kp ⟨a,b,rfl,f,Jo f⟩
 . exact kj ⟨h,JH h⟩
def Ox {s:lB} : ∀ {n e:Nat},ID s n=some e->Lib.countByte (s.take e) 10=n
 | 0,e,h=>by simp only [ID,kz] at h;subst h;simp [Lib.countByte]
 | n+1,e,h=>by
  simp only [ID,Option.bind_eq_some_iff] at h;obtain ⟨f,h1,E⟩:=h;have N:=Ox h1;have Z:=Q9 h1;split at E
  . cases E
  . rename_i L;rcases UR 10 (s.drop f) with ⟨M,F⟩|⟨a,b,M,F,O⟩
    . rw [F] at L;exact absurd Ao L
    . rw [O,kz] at E;have U:s=s.take f++(a++10::b):=by rw [<-M,lf]
      have V:s.take e=s.take f++(a++[10]):=by
       have X:s=(s.take f++(a++[10]))++b:=by rw [kA,kA];exact U
       have Y:(s.take f++(a++[10])).length=e:=by
        simp only [j9,kU,kf,ki];omega
       generalize s.take f++(a++[10])=u at *;subst X;rw [<-Y];exact List.take_left
      rw [V];unfold Lib.countByte at *;rw [List.count_append,List.count_append,N,List.count_eq_zero.2 F];rfl
def XB {s:lB} {n:Nat} (h:(DL s n).2.2=true):s=(DL s n).1++(DL s n).2.1/\Lib.countByte (DL s n).1 10=n:=by
 unfold DL at *;cases he:ID s n with
 | none=>rw [he] at h;cases h
 | some e=>exact ⟨(lf e s).symm,Ox he⟩
def Tr (a b:List EX):BF (a++b)=BF a++BF b:=by
 unfold BF;rw [List.flatMap_append]
def LR (a b:lB):Lib.countByte (a++b) 10=Lib.countByte a 10+Lib.countByte b 10:=by
 unfold Lib.countByte;rw [List.count_append]
def Ro {t u q:lB} (h:P8 t) (E:t=u++q) (f:q≠[]):1<=Lib.countByte q 10:=by
 rcases h with rfl|⟨v,rfl⟩
 . exfalso;have:=congrArg List.length E;simp only [j9,ki] at this;exact f (List.length_eq_zero_iff.1 Aa)
 . have h1:q.getLast f=10:=by
    have F:=congrArg List.getLast? E;rw [List.getLast?_append,List.getLast?_append,List.getLast?_singleton,List.getLast?_eq_some_getLast f] at F;simpa using F.symm
   unfold Lib.countByte;rw [<-h1];exact List.count_pos_iff.2 (List.getLast_mem f)
def XC {e:EX} (h:e.valid) (hl:e.g.text.length<=65536) {p q:lB} (N:e.text=p++q) (O:q≠[]):Fu p = .error 4:=by
 have U:=H9 e.g.text;have L:(0:Int)<=(Lib.countByte e.g.text 10:Nat):=by omega
 have M:=LL _ (fun x V=>(Om h L x V).2);have X:=On h L;obtain ⟨Y,-,Z⟩:=VJ h L Aa;have ht:e.text=Lib.join (Ec e (Lib.countByte e.g.text 10:Nat)) [32]++10::e.g.text:=by
  unfold EX.text H4;rw [kA];rfl
 generalize hH:Lib.join (Ec e (Lib.countByte e.g.text 10:Nat)) [32]=H at *;rw [ht] at N;have h8:((Lib.countByte e.g.text 10:Nat):Int).toNat=Lib.countByte e.g.text 10:=Int.toNat_natCast _;rcases List.append_eq_append_iff.1 N with ⟨u,f,E⟩|⟨u,f,E⟩
 . cases u with
   | nil=>
    rw [ll] at f;subst f;unfold Fu;rw [P4 M,AH rfl]
   | cons x u=>
    rw [kD] at E;injection E with E k3
    subst E;have hf:(DL u (Lib.countByte e.g.text 10)).2.2=false:=by
     cases hb:(DL u (Lib.countByte e.g.text 10)).2.2 with
     | false=>rfl
     | true=>
      exfalso;obtain ⟨c1,c2⟩:=XB hb;have c3:=congrArg (fun t=>Lib.countByte t 10) c1;have c4:=congrArg (fun t=>Lib.countByte t 10) k3;simp only [LR] at c3 c4;have c5:=Ro (Kf e.g) k3 O;omega
    unfold Fu;rw [f,Ta M];simp only [X,Z,h8,hf];rw [At Ao,At (fun k=>k Y),AH trivial]
 . have F:(10:UInt8)∉p:=fun e=>M (by rw [f];exact List.mem_append_left _ e)
   unfold Fu;rw [P4 F,AH rfl]
def Oy : ∀(l acc:List EX) (n line:Nat) (p:lB) (k:Int),(∀e∈l,e.valid/\e.g.wf/\e.g.text.length<=65536) -> ¬JK (acc++l)->acc.length+l.length<100->l.length<n->p≠[]->Fu p = .error k->Dz n acc line (BF l++p)=([],((line+Lib.countByte (BF l) 10:Nat):Int),k)
 | [],acc,n+1,line,p,k,_,_,f,_,E,F=>by
  rw [show BF []++p=p from rfl,Dz,At E,At (by simp only [ki] at f;omega),F];rfl
 | e::l,acc,n+1,line,p,k,h,L,f,M,E,F=>by
  obtain ⟨h1,N,O⟩:=h e A6;have U:BF (e::l)=e.text++BF l:=rfl;have V:=Ov h1 N O (BF l++p);simp only [kf] at f M;have X : ¬GR acc e.name=true:=fun k=>L ⟨acc.length,A6,e,A6,by simpa using k⟩
  rw [U,kA,Dz,At (VP e _),At Aa,V];simp only;rw [At X,Oy l (acc++[e]) n _ p k (fun x Y=>h x (lx _ Y)) (by rw [kA];exact L) (by simp only [j9,kf,ki];omega) Aa E F];have Z:List.take ((e.text++(BF l++p)).length-(BF l++p).length) (e.text++(BF l++p))=e.text:=by
   rw [j9,Nat.add_sub_cancel,List.take_left]
  rw [Z,LR,Nat.add_assoc]
def VQ : ∀(l:List EX) (k:Nat),k<(BF l).length -> ∃j p q,∃E:j<l.length,(BF l).take k=BF (l.take j)++p/\l[j].text=p++q/\q≠[]
 | [],k,h=>absurd h (by simp [BF])
 | e::l,k,h=>by
  have f:BF (e::l)=e.text++BF l:=rfl;by_cases N:k<e.text.length
  . refine ⟨0,e.text.take k,e.text.drop k,A6,?_,(lf k e.text).symm,?_⟩
    . rw [f,List.take_append_of_le_length Aa];rfl
    . intro F;have:=congrArg List.length F;rw [List.length_drop,ki] at this;omega
  . rw [f,j9] at h;obtain ⟨j,p,q,E,h1,L,M⟩:=VQ l (k-e.text.length) Aa;refine ⟨j+1,p,q,by simp only [kf];omega,?_,by simpa using L,M⟩;rw [f,List.take_append,List.take_of_length_le Aa,h1,lo];rw [show BF (e::l.take j)=e.text++BF (l.take j) from rfl,kA]
def Qi {l:List EX} (h : ¬JK l) (j:Nat) : ¬JK (l.take j):=by
 rintro ⟨i,F,e,f,E⟩;rw [kU] at F;rw [List.getElem?_take,AH Aa] at f;rw [List.take_take,Nat.min_eq_left Aa] at E;exact h ⟨i,Aa,e,f,E⟩
def US {l:List EX} (h : ∀e∈l,e.valid/\e.g.wf) (L : ¬JK l) (hl:l.length<=100) (hc : ¬ 65536<(BF l).length) {k:Nat} (U:k<(BF l).length) :
 ∃j,∃F:j<l.length,Jn ((BF l).take k)=(l.take j,0,0)\/Jn ((BF l).take k)=([],((1+Lib.countByte (BF (l.take j)) 10:Nat):Int),4):=by
 obtain ⟨j,p,q,F,h1,V,X⟩:=VQ l k U;have M : ∀e∈l,e.valid/\e.g.wf/\e.g.text.length<=65536:=fun e E=>by
  refine ⟨(h e E).1,(h e E).2,?_⟩;have k1:e.text.length<=(BF l).length:=by
   obtain ⟨a,b,rfl⟩:=List.append_of_mem E;unfold BF;rw [List.flatMap_append,List.flatMap_cons,j9,j9];omega
  have k2:e.g.text.length<=e.text.length:=by unfold EX.text;rw [j9];omega
  omega
 have Y:(l.take j).length=j:=by rw [kU];omega
 have f:((BF l).take k).length=k:=by rw [kU];omega
 refine ⟨j,F,?_⟩;by_cases N:p=[]
 . refine kj ?_;subst N;rw [ll] at h1;rw [h1];refine UP (fun e E=>h e (List.mem_of_mem_take E)) (Qi L j) Aa ?_;rw [<-h1,f];omega
 . refine kp ?_;have O:=M l[j] (kq F);have Z:=XC O.1 O.2.2 V X;unfold Jn;rw [At (by rw [f];omega),h1];exact Oy (l.take j) [] 101 1 p 4 (fun e E=>M e (List.mem_of_mem_take E)) (Qi L j) (by simp only [ki];omega) Aa N Z
def VR {l:List EX} {j:Nat} (hj:j<l.length) : ∃r,BF l=BF (l.take j)++([101,120,101,114,99,105,115,101,32]++r)/\r≠[]:=by
 have h1:BF l=BF (l.take j)++(l[j].text++BF (l.drop (j+1))):=by
  conv=>lhs;rw [<-lf j l,Tr,lh hj]
  rfl
 rw [h1];unfold EX.text H4;rw [Ol,IG];refine ⟨Lib.join ([l[j].name,[112,111,105,110,116,115],Lib.itoa l[j].points,[102,117,101,108],Lib.itoa l[j].fuel,[118,97,108,117,101],Lib.itoa l[j].box.v,[108,101,110,103,116,104],Lib.itoa l[j].box.l,[105,110,112,117,116],Lib.itoa l[j].box.i,[108,105,110,101,115],Lib.itoa (Lib.countByte l[j].g.text 10:Nat)]) [32]++[10]++l[j].g.text++BF (l.drop (j+1)),?_,A6⟩;simp
def UT (l:List EX):P8 (BF l):=by
 rcases List.eq_nil_or_concat l with rfl|⟨r,e,rfl⟩
 . exact kj rfl
 . rw [List.concat_eq_append,Tr];obtain ⟨v,f⟩ : ∃v,e.text=v++[10]:=by
    unfold EX.text H4;rcases Kf e.g with h|⟨u,h⟩
    . rw [h,ll];exact ⟨_,rfl⟩
    . generalize Lib.join (Ec e (Lib.countByte e.g.text 10:Nat)) [32]++[10]=k;rw [h];exact ⟨k++u,by rw [kA]⟩
   refine kp ⟨BF r++v,?_⟩;rw [show BF [e]=e.text from by simp [BF],f,kA]
def ik (k:Int):Value:=.int .i64 k
def CF (es:List MapEntry) (kvs:List (Int×Value)):Prop:=es.map (fun e=>(e.key,e.val))=kvs.map (fun p=>(ik p.1,p.2))
def MapN (w:wD) (r:Nat) (kvs:List (Int×Value)):Prop:= ∃es clock,w.heap[r]? = some (.map es clock)/\CF es.toList kvs
def Ge:List (Int×Value)->Int->Option Value
 | [],_=>none
 | p::r,k=>if k=p.1 then some p.2 else Ge r k
def IU:List (Int×Value)->Int->Value->List (Int×Value)
 | [],k,v=>[(k,v)]
 | p::r,k,v=>if k=p.1 then (p.1,v)::r else p::IU r k v
def MapN.lt {w:wD} {r:Nat} {f:List (Int×Value)} (h:MapN w r f):r<w.heap.size:=by
 obtain ⟨F,c,h,-⟩:=h;rcases kK r w.heap.size with E|E
 . exact E
 . rw [ld E] at h;cases h
def MapN.fr {S:nP} {w w':wD} {r:Nat} {f:List (Int×Value)} (h:MapN w r f) (x:Fr S w w') (E : ¬S r):MapN w' r f:=by
 have F:=h.lt;obtain ⟨L,c,h,e⟩:=h;exact ⟨L,c,by rw [x.block r F E];exact h,e⟩
instance {S:nP} {w w':wD} {r:Nat} {f:List (Int×Value)}:LfF S w w' (MapN w r f) (¬S r) (MapN w' r f):=⟨fun x s h=>Bk.MapN.fr h x s⟩
def MapIs.toN {w:wD} {r:Nat} (h:MapIs w r []):MapN w r []:=by
 obtain ⟨f,c,h,e⟩:=h;exact ⟨f,c,h,by simpa [BK,CF] using e⟩
def My : ∀(F:List MapEntry) (f:List (Int×Value)) (k:Int) (i:Nat),CF F f ->
 ∃o,Instr.findNow (.int .i64) (ik k) F i=some o/\(o.map (·.2)=Ge f k) /\ ∀j v,o=some (j,v)->i<=j /\ ∃e,F[j-i]? = some e/\e.key=ik k /\ ∀L,CF (F.set (j-i) { e with key:=ik k,val:=L }) (IU f k L)
 | [],[],k,i,_=>⟨none,rfl,rfl,fun _ _ h=>by cases h⟩
 | [],_::_,_,_,h=>by simp [CF] at h
 | _::_,[],_,_,h=>by simp [CF] at h
 | e::F,(N,L)::f,k,i,h=>by
  simp only [CF,lr,kQ,kX] at h;obtain ⟨⟨M,O⟩,U⟩:=h;have V:Instr.sameNow (.int .i64) (ik k) e.key=some (decide (k=N)):=by
   rw [M];simp only [ik,Instr.sameNow,if_true];rfl
  by_cases E:k=N
  . subst E;refine ⟨some (i,e.val),by simp [Instr.findNow,V],by simp [Ge,O],fun j v h=>?_⟩;simp only [kz,kX] at h;obtain ⟨rfl,-⟩:=h;refine ⟨kv _,e,A6,M,fun L=>?_⟩;simp [CF,IU,U]
  . obtain ⟨o,h1,Y,Z⟩:=My F f k (i+1) U;refine ⟨o,by simp [Instr.findNow,V,E,h1],by simp [Ge,E,Y],fun j v h=>?_⟩;obtain ⟨g1,e',g2,g3,g4⟩:=Z j v h;have X:j-i=(j-(i+1))+1:=by omega
    refine ⟨Aa,e',by rw [X];simpa using g2,g3,fun L=>?_⟩;rw [X];have:=g4 L;simp only [CF] at this ⊢;simp [IU,E,M,O,this]
section maps
variable {P:Program} {n:Nat} {l:Sl} {w:wD} {tab:Tab} {ty:TypeId}
def Lb {F:Nat} (M:P.underlying F=some (.int .i64)) {E:List MapEntry} {f:List (Int×Value)} {k:Int} (h:CF E f) (w:wD) :
 ∃o,(Instr.findKey F (ik k) E).run P w = .ok o w/\(o.map (·.2)=Ge f k) /\ ∀j v,o=some (j,v) -> ∃e,E[j]? = some e/\e.key=ik k /\ ∀L,CF (E.set j { e with key:=ik k,val:=L }) (IU f k L):=by
 obtain ⟨o,h1,N,O⟩:=My E f k 0 h;refine ⟨o,by simp [Instr.findKey,AD M,kn,h1],N,fun j v U=>?_⟩;obtain ⟨-,e,V,g3,g4⟩:=O j v U;exact ⟨e,by simpa using V,g3,by simpa using g4⟩
def Hh {f:Nat} (h:P.underlying f=some (.int .i64)) (b:Bool) (k:Int) (w:wD):(Instr.checkKey b 10000 f (ik k)).run P w = .ok () w:=by
 rw [show (10000:Nat)=9999+1 from rfl,Instr.checkKey];simp [AD h,kn,ik]
def Ts {S:wD->Prop} {x y:Operand} {t E e F L r:Nat} {c:Bool} {k:Int} {z:Value} {f:List (Int×Value)} (T:TabOk P tab) (Y:AC tab t=some (.map E e,F)) (M:AC tab E=some (.int .i64,L)) (N:((P.info? e).bind (·.zero))=some z)
 (Z:ev l x=some (.map (some r))) (hy:ev l y=some (.int .i64 k)) (hm : ∀w,S w->MapN w r f):BA P n l S (.lookup t x y c) ty (GU (Ge f k) z c):=by
 unfold BA;intro a w aa pos after g V hS;have hu:P.underlying t=some (.map E e):=(T _ _ _ Y).under;have X:P.underlying E=some (.int .i64):=(T _ _ _ M).under;obtain ⟨es,h,hh,he⟩:=hm w hS;obtain ⟨i0,z1,z2⟩ : ∃i,P.info? e=some i/\i.zero=some z:=by
  cases hi:P.info? e with
  | none=>rw [hi] at N;cases N
  | some i=>exact ⟨i,rfl,by simpa [hi] using N⟩
 obtain ⟨o,h1,h2,-⟩:=Lb X (k:=k) he w;have O:(zeroValue e).run P w = .ok z w:=by simp [zeroValue,typeInfo,program,Sem.run,z1,z2,bind,Sem.bind,pure]
 have e1:(Instr.lookup t (.map (some r)) (ik k) c).run P w = .ok (GU (Ge f k) z c) w:=by
  have hg:(getObj r).run P w = .ok (.map es h) w:=by simp [getObj,Sem.run,hh]
  simp only [Instr.lookup,kB,AD hu,kn,hg,kJ,Hh X,h1];rw [<-h2];cases o with
  | none=>simp [O,GU]
  | some q=>simp [GU]
 have U:ev l y=some (ik k):=hy;simp only [execOp,V.ev Z,V.ev U,kB,e1,kn,kJ]
def Oz {t O e Y Z r:Nat} {k:Int} {v:Value} {E:List (Int×Value)} (T:TabOk P tab) (ht:AC tab t=some (.map O e,Y)) (aa:AC tab O=some (.int .i64,Z)) (hm:MapN w r E) :
 ∃U,(Instr.mapUpdate t (.map (some r)) (ik k) v).run P w = .ok () U/\MapN U r (IU E k v)/\Fr (· = r) w U/\U.heap.size=w.heap.size:=by
 have hu:P.underlying t=some (.map O e):=(T _ _ _ ht).under;have hk:P.underlying O=some (.int .i64):=(T _ _ _ aa).under;obtain ⟨F,f,V,he⟩:=hm;obtain ⟨o,h1,h2,h3⟩:=Lb hk (k:=k) he w;have hg:(getObj r).run P w = .ok (.map F f) w:=by simp [getObj,Sem.run,V]
 have L : ∀ob,(setObj r ob).run P w = .ok () { w with heap:=w.heap.setIfInBounds r ob }:=fun ob=>by simp [setObj,Sem.run,V]
 cases o with
 | none=>
  have ab:Ge E k=none:=by simpa using h2.symm
  obtain ⟨p1,p2⟩:=Gm w r _ (.map (F.push { key:=ik k,val:=v,born:=f }) (f+1)) V;refine ⟨_,?_,⟨_,_,p1,?_⟩,p2,A6⟩
  . simp only [Instr.mapUpdate,kB,AD hu,kn,hg,Hh hk,h1,L]
  . have key : ∀(F:List MapEntry) (E:List (Int×Value)),CF F E->Ge E k=none->CF (F++[{ key:=ik k,val:=v,born:=f }]) (IU E k v):=by
     intro F E
     induction E generalizing F with
     | nil=>intro h _;cases F with|nil=>simp [CF,IU]|cons _ _=>simp [CF] at h
     | cons p r ih=>
      intro h X;cases F with
      | nil=>simp [CF] at h
      | cons e F=>
       simp only [Ge] at X;split at X
       . cases X
       . rename_i ac;simp only [CF,lr,kQ] at h;have:=ih F h.2 X;simp only [CF] at this ⊢;simp [IU,ac,h.1,this]
    simpa using key F.toList E he ab
 | some q=>
  obtain ⟨j,u⟩:=q;obtain ⟨en,g1,g2,g3⟩:=h3 j u rfl;have M:(Instr.keyThatStays (((F[j]?).map (·.key)).getD (ik k)) (ik k)).run P w = .ok (ik k) w:=by
   have:F[j]? = some en:=by simpa using g1
   rw [this];simp [Instr.keyThatStays,g2,Instr.sameBits,ik]
  obtain ⟨p1,p2⟩:=Gm w r _ (.map (F.modify j fun e=>{ e with key:=ik k,val:=v }) f) V;refine ⟨_,?_,⟨_,_,p1,?_⟩,p2,A6⟩
  . simp only [Instr.mapUpdate,kB,AD hu,kn,hg,Hh hk,h1,M,L]
  . have:=g3 v;have e:(F.modify j fun e=>{ e with key:=ik k,val:=v }).toList=F.toList.set j { en with key:=ik k,val:=v }:=by
     apply List.ext_getElem?;intro i;have gj:F[j]? = some en:=by simpa using g1
     rw [Array.getElem?_toList,Array.getElem?_modify,List.getElem?_set];by_cases N:j=i
     . subst N;have ad:j<F.size:=(Array.getElem?_eq_some_iff.1 gj).1;rw [AH rfl,AH rfl,gj];simp [ad]
     . simp [N]
    rw [e];exact this
def LS {x y z:Operand} {t kt e sz1 sz2 r:Nat} {k:Int} {v:Value} {kvs:List (Int×Value)} (T:TabOk P tab) (ht:AC tab t=some (.map kt e,sz1)) (hkt:AC tab kt=some (.int .i64,sz2)) (hx:ev l x=some (.map (some r))) (hy:ev l y=some (.int .i64 k)) (hz:ev l z=some v) (hm:MapN w r kvs) :
 Ce P n l (.mapUpdate t x y z) ty w (Nl fun w1=>MapN w1 r (IU kvs k v)/\Fr (· = r) w w1):=by
 unfold Ce;intro a dst pos after g next Q ha _ hn;obtain ⟨w1,h1,h2,h3,h4⟩:=Oz (P:=P) (k:=k) (v:=v) T ht hkt hm;have hy':ev l y=some (ik k):=hy;have e1:(execOp a.eval ⟨dst,.mapUpdate t x y z,ty,pos,after,g⟩).run P w = .ok .skip w1:=by
  simp only [execOp,ha.ev hx,ha.ev hy',ha.ev hz,kB,h1,kn,kJ]
 unfold lJ;rw [e1];exact hn w1 ⟨h2,h3⟩
end maps
def ItAt (w:wD) (r:Nat) (s:lB) (pos:Nat):Prop:=w.heap[r]? = some (.stringIter ⟨s.toArray⟩ pos)
def ItAt.lt {w:wD} {r:Nat} {s:lB} {pos:Nat} (h:ItAt w r s pos):r<w.heap.size:=by
 unfold ItAt at h;rcases kK r w.heap.size with f|f
 . exact f
 . rw [ld f] at h;cases h
def ItAt.fr {S:nP} {w w':wD} {r:Nat} {s:lB} {pos:Nat} (h:ItAt w r s pos) (x:Fr S w w') (f : ¬S r):ItAt w' r s pos:=by
 have E:=h.lt;unfold ItAt at *;rw [x.block r E f];exact h
instance {S:nP} {w w':wD} {r:Nat} {s:lB} {pos:Nat}:LfF S w w' (ItAt w r s pos) (¬S r) (ItAt w' r s pos):=⟨fun x s h=>Bk.ItAt.fr h x s⟩
def E2 (s:lB) (p:Nat):Nat:=(Utf8.decode ⟨s.toArray⟩ p).2
def JI {s:lB} {p k:Nat} (h:(decide (p+k<(⟨s.toArray⟩:ByteArray).size)&&(((⟨s.toArray⟩:ByteArray).get! (p+k)).toNat/64==2))=true) : ∃x,s[p+k]? = some x/\128<=x.toNat:=by
 rw [ke,decide_eq_true_eq,beq_iff_eq] at h;obtain ⟨h1,f⟩:=h;have h1:p+k<s.length:=by rw [DR] at h1;exact h1
 refine ⟨s[p+k],kg h1,?_⟩;have e:(⟨s.toArray⟩:ByteArray).get! (p+k)=s[p+k]:=by
  show s.toArray[p+k]! = _;simp [h1]
 rw [e] at f;omega
def Kg (s:lB) (p:Nat):1<=E2 s p /\ ∀i,p<i->i<p+E2 s p -> ∃x,s[i]? = some x/\128<=x.toNat:=by
 unfold E2 Utf8.decode;simp only;split
 . exact ⟨kv _,fun i h1 f=>by simp only at f;omega⟩
 split
 . rename_i h;rw [ke] at h;have E:=JI h.2;split
   . refine ⟨Nat.succ_le_succ (kC _),fun i h1 f=>?_⟩;simp only at f;obtain rfl:i=p+1:=by omega
     exact E
   . exact ⟨kv _,fun i h1 f=>by simp only at f;omega⟩
 split
 . rename_i h;rw [ke,ke] at h;have E:=JI h.1.2;have c2:=JI h.2;split
   . refine ⟨Nat.succ_le_succ (kC _),fun i h1 f=>?_⟩;simp only at f;rcases (show i=p+1\/i=p+2 by omega) with rfl|rfl
     . exact E
     . exact c2
   . exact ⟨kv _,fun i h1 f=>by simp only at f;omega⟩
 split
 . rename_i h;rw [ke,ke,ke] at h;have E:=JI h.1.1.2;have c2:=JI h.1.2;have c3:=JI h.2;split
   . refine ⟨Nat.succ_le_succ (kC _),fun i h1 f=>?_⟩;simp only at f;rcases (show i=p+1\/i=p+2\/i=p+3 by omega) with rfl|rfl|rfl
     . exact E
     . exact c2
     . exact c3
   . exact ⟨kv _,fun i h1 f=>by simp only at f;omega⟩
 . exact ⟨kv _,fun i h1 f=>by simp only at f;omega⟩
section
variable {P:Program} {n:Nat} {l:Sl} {w:wD} {tab:Tab} {ty:TypeId}
def UU {x:Operand} {t sz:Nat} {s:lB} (T:TabOk P tab) (ht:AC tab t=some (.str,sz)) (hx:ev l x=some (str s)) :
 Ce P n l (.range t x) ty w (IX fun o w'=> ∃r,o = .pointer (some ⟨r,0,none⟩)/\w.heap.size<=r/\r<w'.heap.size/\ItAt w' r s 0/\Ext w w'):=by
 unfold Ce;intro a dst pos after g next Q ha hn _;have hu:P.underlying t=some .string:=(T _ _ _ ht).under;have e1:(execOp a.eval ⟨dst,.range t x,ty,pos,after,g⟩).run P w = .ok (.value (.pointer (some ⟨w.heap.size,0,none⟩))) (w.alloc (.stringIter ⟨s.toArray⟩ 0)):=by
  simp only [execOp,ha.ev hx,Instr.range,kB,AD hu,kn,kJ];simp [newObj,Sem.run,bind,Sem.bind,pure]
 unfold lJ;rw [e1];refine hn _ _ ⟨_,rfl,kv _,?_,?_,(Ext.refl w).alloc _⟩
 . show w.heap.size<(w.heap.push _).size;rw [Array.size_push];omega
 . show (w.heap.push _)[w.heap.size]? = _;simp
def UV {x:Operand} {r p:Nat} {s:lB} (hx:ev l x=some (.pointer (some ⟨r,0,none⟩))) (hi:ItAt w r s p) (hp:p<s.length) :
 Ce P n l (.next x true) ty w (IX fun o w'=> ∃c:Int,o = .tuple #[.bool true,.int .i64 p,.int .i32 c]/\ItAt w' r s (p+E2 s p)/\Fr (· = r) w w'):=by
 unfold Ce;intro a dst pos after g next Q ha hn _;have h1:=Lib.run_next_any_at (P:=P) w r ⟨s.toArray⟩ p ty hi (by rw [DR];exact hp);have e1:(execOp a.eval ⟨dst,.next x true,ty,pos,after,g⟩).run P w = .ok (.value (.tuple #[.bool true,.int .i64 p,.int .i32 (Utf8.decode ⟨s.toArray⟩ p).1])) (w.iterAt r ⟨s.toArray⟩ (p+(Utf8.decode ⟨s.toArray⟩ p).2)):=by
  simp only [execOp,ha.ev hx,kB,h1,kn,kJ]
 unfold lJ;rw [e1];refine hn _ _ ⟨_,rfl,Lib.iterAt_heap w r _ p _ hi,?_⟩;exact (Gm w r _ _ hi).2
def UW {x:Operand} {r p:Nat} {s:lB} (hx:ev l x=some (.pointer (some ⟨r,0,none⟩))) (hi:ItAt w r s p) (hp : ¬p<s.length) :
 Ce P n l (.next x true) ty w (IX fun o w'=>o = .tuple #[.bool false]/\w'=w):=by
 unfold Ce;intro a dst pos after g next Q ha hn _;have h1:=Lib.run_next_end_at (P:=P) w r ⟨s.toArray⟩ p ty hi (by rw [DR];exact hp);have e1:(execOp a.eval ⟨dst,.next x true,ty,pos,after,g⟩).run P w = .ok (.value (.tuple #[.bool false])) w:=by
  simp only [execOp,ha.ev hx,kB,h1,kn,kJ]
 unfold lJ;rw [e1];exact hn _ _ ⟨rfl,rfl⟩
end
def Qj {a b c:Int} (h:a%b=c) (f:0<=a):a.tmod b=c:=by rw [Int.tmod_eq_emod_of_nonneg f];exact h
def Tt (f:List (Int×Value)) (k:Int) (v:Value):Ge (IU f k v) k=some v:=by
 induction f with
 | nil=>simp [IU,Ge]
 | cons p r E=>
  rw [IU];split
  . rename_i h;rw [Ge,AH h]
  . rename_i h;rw [Ge,At h,E]
def XD {f:List (Int×Value)} {k:Int} {v:Value} (h:Ge f k=some v) (j:Int):Ge (IU f j v) k=some v:=by
 by_cases F:j=k
 . subst F;exact Tt _ _ _
 . induction f with
   | nil=>simp [Ge] at h
   | cons p r L=>
    rw [IU];rw [Ge] at h;split
    . rename_i h1;rw [Ge];split at h
      . rename_i E;exact absurd (h1.trans E.symm) F
      . rename_i E;rw [At E];exact h
    . rw [Ge];split at h
      . rename_i E;rw [AH E];exact h
      . rename_i E;rw [At E];exact L h
def Tu {P:Program} {n:Nat} {l:Sl} {tab:Tab} {ty:TypeId} {S:wD->Prop} {x y:Operand} {t M e E F r:Nat} {k:Int} {z v:Value} {f:List (Int×Value)} (T:TabOk P tab) (N:AC tab t=some (.map M e,E)) (L:AC tab M=some (.int .i64,F)) (O:((P.info? e).bind (·.zero))=some z)
 (U:ev l x=some (.map (some r))) (V:ev l y=some (.int .i64 k)) (X : ∀w,S w->MapN w r f) (Y:Ge f k=some v):BA P n l S (.lookup t x y false) ty v:=by
 have h:=Ts (P:=P) (n:=n) (ty:=ty) (c:=false) T N L O U V X;rw [Y] at h;exact h
structure HeadAt (s:lB) (p:Nat):Prop where
 lt:p+9<s.length
 eq:(s.drop p).take 9=[101,120,101,114,99,105,115,101,32]
 at0:s[p]? = some 101
 pre:p=0\/s[p-1]? = some 10
def gU {l:List EX} {j:Nat} (f:j<l.length):HeadAt (BF l) (BF (l.take j)).length:=by
 obtain ⟨r,h1,E⟩:=VR f;have M:=List.length_pos_iff.2 E;have F:=congrArg List.length h1;simp only [j9] at F;have L:([101,120,101,114,99,105,115,101,32]:lB).length=9:=rfl;refine ⟨Aa,?_,?_,?_⟩
 . rw [h1,List.drop_left,List.take_append_of_le_length (by rw [L];exact kv _)];rfl
 . rw [h1,lH (kv _),Nat.sub_self];rfl
 . rcases UT (l.take j) with h|⟨u,h⟩
   . left;rw [h];rfl
   . right;rw [h1,h,j9,List.length_singleton,Nat.add_sub_cancel,kA,lH (kv _),Nat.sub_self];rfl
def IT {s:lB} {p:Nat} {x:UInt8} (h:s[p]? = some x):Lib.countByte (s.take (p+1)) 10=Lib.countByte (s.take p) 10+if x=10 then 1 else 0:=by
 have E:p<s.length:=(List.getElem?_eq_some_iff.1 h).1;rw [kg E] at h;rw [ky E,LR,kG h];unfold Lib.countByte;by_cases f:x=10
 . subst f;rfl
 . rw [At f];have:List.count 10 [x]=0:=List.count_eq_zero.2 (fun e=>f (lM.1 e).symm);rw [this]
def Tv {s:lB} {p:Nat} : ∀(k:Nat),(∀i,p<=i->i<p+k -> ∃x,s[i]? = some x/\128<=x.toNat)->Lib.countByte (s.take (p+k)) 10=Lib.countByte (s.take p) 10
 | 0,_=>rfl
 | k+1,h=>by
  obtain ⟨x,h1,f⟩:=h (p+k) Aa Aa;rw [<-Nat.add_assoc,IT h1,Tv k (fun i h1 f=>h i h1 Aa),At (fun e=>by subst e;exact absurd f Ao),Nat.add_zero]
def UX {s:lB} {p:Nat} {x:UInt8} (h:s[p]? = some x):Lib.countByte (s.take (p+E2 s p)) 10=Lib.countByte (s.take p) 10+if x=10 then 1 else 0:=by
 obtain ⟨h1,f⟩:=Kg s p;have e:p+E2 s p=(p+1)+(E2 s p-1):=by omega
 rw [e,Tv (s:=s) (p:=p+1) (E2 s p-1) (fun i E F=>f i Aa Aa),IT h]
def XE {s:lB} {p q:Nat} (h:s[q]? = some 101) (h1:p<=q) (E:q<p+E2 s p):q=p:=by
 rcases Nat.lt_or_eq_of_le h1 with k|k
 . obtain ⟨x,f,F⟩:=(Kg s p).2 q k E;rw [h] at f;cases f;exact absurd F Ao
 . exact k.symm
def gV {l:List EX} {j:Nat} (f:j<l.length):(BF l).take (BF (l.take j)).length=BF (l.take j):=by
 obtain ⟨r,h1,-⟩:=VR f;rw [h1,List.take_left]
def ParK (l:List EX) (w:wD):Ending->wD->Prop:=fun e w'=> ∃a c,e = .returned (.tuple #[.slice a l.length c,.int .i64 0,.int .i64 0])/\EXs (w.heap.size <= ·) w' l a/\Ext w w'
def ParK.ret {l:List EX} {w w':wD} {e:Ending} (h:ParK l w e w') : ∃v,e = .returned v:=by
 obtain ⟨_,_,h,-⟩:=h;exact ⟨_,h⟩
def jn (l:List EX) (hll:l.length<=9223372036854775807) (hw : ∀e∈l,e.name.length<=9223372036854775807/\e.g.wf) (n:Int) (hn:0<=n/\n<=65535) (S:nP) (a:oA) (c:Nat) (w:wD) (hs:EXs S w l a) (hE:Errs2 w) (ht:TabsF w) :
 Calls prog 9 #[.slice a l.length c,.int .u16 n] w fun r w'=>r = .returned (.bool true)/\Ext w w':=by
 have X:=Ext.refl w;have hg0:=ht.g;obtain ⟨hn0,hn1⟩:=hn;replace hs:=hs.ltA;have HA:=kh (fun w1 h1 h2=>Xn w1 h1 h2);have HG:Hid (∀w1,EXs (· < w.heap.size) w1 l a->Calls prog 11 #[.slice a l.length c] w1 (GreatF l w1)):=kh (fun w1 h=>Xr l hll (fun e he=>(hw e he).2) (· < w.heap.size) a c w1 h);have HW:=kh hw;clear hw;refine Ae func9 ntmps9 rfl rfl ?_
 focus
  refine eK ?_;refine cC rfl (HA.out _ ‹_› ‹_›) ?_;rintro _ w2 ⟨⟨⟩,x1⟩;revert hE ht X hs;refine eY x1 ?_;intro z3 hE ht X hs;refine eK ?_;refine eQ rfl (HG.out _ ‹_›) ?_;rintro _ w7 ⟨b4,⟨⟨⟩,⟨h5,x6⟩⟩⟩;revert hE ht X hs;refine eY x6 ?_;intro z8 hE ht X hs;refine C1 Mv ?_;refine Qt rfl rfl rfl (fun c9=>?_) (fun c9=>?_);refine Bb rfl rfl rfl (Kq ‹_›) rfl (Bb rfl rfl rfl (Kq ‹_›) rfl (Bb rfl rfl rfl (Kq ‹_›) rfl (C1 (Cm rfl rfl ‹_›) ?_)));refine eK ?_;refine Bo rfl rfl ?_;rotate_left;refine Bl rfl rfl rfl (Kr ‹_›) (C1 Mv (Bl rfl rfl rfl (Kr ‹_›) (C1 Pz (Bl rfl rfl rfl (Kr ‹_›) (C1 V5 (C1 (Cd rfl rfl ‹_›) (cT ?_)))))));refine AF rfl (fun c10=>?_) (fun c10=>?_);refine eK ?_;refine Bo rfl rfl ?_;rotate_left;refine Av (Ai ?_);rotate_left
 . exact ⟨rfl,X⟩
 . exact ⟨rfl,X⟩
 have hf:=(show _=false->Fit l by assumption) ‹_›;have HV:=kh (fun w1 h=>Xs l (by omega) (· < w.heap.size) a c w1 h);have HP:=kh (fun S a c hc w1 h1 h2=>PQ l (hf.wf HW.out) S a c (by omega) hc w1 h1 h2);obtain ⟨s,pk,hp,hc⟩:=UQ l;rw [hp] at HP;simp only at HP;clear hp hf HA HG
 refine eK ?_;refine eQ rfl (HV.out _ ‹_›) ?_;rintro _ wa6 ⟨aa1,⟨ca2,⟨⟨⟩,⟨ha3,⟨ha4,xa5⟩⟩⟩⟩⟩;revert hE ht X hs;refine eY xa5 ?_;intro za7 hE ht X hs;refine cC rfl (HP.out _ _ _ ‹_› _ ‹_› ‹_›) ?_;rintro _ wa9 ⟨⟨⟩,xa8⟩;revert ha4 hE ht X hs;refine eY xa8 ?_;intro za10 ha4 hE ht X hs;refine C1 Mv (C1 Px (C1 Px (C1 Pa (C1 Pa (cT (Al ?_))))))
 clear HP
 rcases hc with ⟨rfl,rfl,e2,e3,e4,e5⟩|⟨hk,rfl⟩
 . have HC:=kh (fun k hk=>US (l:=l) (k:=k) (fun e he=>⟨e2 e he,(HW.out e he).2⟩) e3 e4 e5 hk);have HS:=kh (fun j (hj:j<l.length) S S' a a' c c' w1 h1 h2'=>cQ (l.take j) (by rw [kU];omega) (fun e he=>MN (e2 e (List.mem_of_mem_take he)).2.1.1) S S' a a' c c' w1 h1 h2');have HH:=kh (fun j (hj:j<l.length)=>gU hj);have HT:=kh (fun j (hj:j<l.length)=>gV hj);clear HW e2 e3
   generalize BF l=s at *
   focus
    refine eK ?_;refine AF rfl (fun cb1=>?_) (fun cb1=>?_);refine eK ?_;refine Bo rfl rfl ?_;rotate_left;refine Av (Ai ?_);rotate_left
   . exact ⟨rfl,X⟩
   have hpos:0<s.length:=List.length_pos_iff.2 ‹_›;obtain ⟨k,hk⟩ : ∃k:Nat,n%(s.length:Int)=(k:Int):=⟨(n%(s.length:Int)).toNat,(Int.toNat_of_nonneg (Int.emod_nonneg _ (by omega))).symm⟩
   have hkl:k<s.length:=by have:=Int.emod_lt_of_pos n (b:=(s.length:Int)) (by omega);omega
   obtain ⟨j,hj,hb⟩:=HC.out k hkl;have hh:=HH.out j hj;have hq:=HT.out j hj;replace HS:=kh (HS.out j hj);have HR0:=kh (fun w1 hE ht=>P3 (s.take k) (by rw [kU];omega) w1 hE ht);clear HC HH HT
   rcases hb with hb|hb
   . have HR:Hid (∀w1,Errs2 w1->TabsF w1->Calls prog 18 #[str (s.take k)] w1 (ParK (l.take j) w1)):=kh fun w1 h1 h2=>(HR0.out w1 h1 h2).mono fun e w' h=>by
      rw [hb] at h;obtain ⟨a,c,k1,-,k2,k3⟩:=h
      exact ⟨a,c,k1,k2,k3⟩
     have hjl:(l.take j).length=j:=by rw [kU];omega
     clear hb hh hq HR0
     refine eK ?_;refine C1 (Ry Ab rfl rfl rfl (kN _ (by omega))) ?_;refine eK ?_;refine C1 (Qw rfl rfl (by omega) (Qj ‹_› (by omega))) ?_;refine eK ?_;refine C1 (Jt Ab rfl rfl rfl (by omega) (by omega)) (eQ rfl (HR.out _ ‹_› ‹_›) ?_);rintro _ wc5 ⟨ac1,⟨cc2,⟨⟨⟩,⟨hc3,xc4⟩⟩⟩⟩;revert ha4 hE ht X hs;refine eY xc4 ?_;intro zc6 ha4 hE ht X hs;refine eK ?_;refine eQ rfl (HV.out _ ‹_›) ?_;rintro _ wc12 ⟨ac7,⟨cc8,⟨⟨⟩,⟨hc9,⟨hc10,xc11⟩⟩⟩⟩⟩;revert hc3 ha4 hE ht X hs;refine eY xc11 ?_;intro zc13 hc3 ha4 hE ht X hs;refine eK ?_;refine C1 (JA Ab rfl rfl rfl rfl rfl (by omega)) (XK (cC rfl (HS.out _ _ _ _ _ _ _ ‹_› (EXs.take ‹_› _)) ?_));rintro _ wc15 ⟨⟨⟩,xc14⟩;revert hc10 hc3 ha4 hE ht X hs;refine eY xc14 ?_;intro zc16 hc10 hc3 ha4 hE ht X hs;refine eK ?_;refine Bo rfl rfl ?_
     all_goals exact ⟨rfl,X⟩
   . have HR:Hid (∀w1,Errs2 w1->TabsF w1->Calls prog 18 #[str (s.take k)] w1 fun e w'=> ∃a c,e = .returned (.tuple #[.slice a 0 c,.int .i64 ((1+Lib.countByte (BF (l.take j)) 10:Nat):Int),.int .i64 4])/\Ext w1 w'):=kh fun w1 h1 h2=>(HR0.out w1 h1 h2).mono fun e w' h=>by
      rw [hb] at h;obtain ⟨a,c,k1,-,-,k3⟩:=h
      exact ⟨a,c,k1,k3⟩
     rw [<-hq] at HR
     clear hb hq HS HV HR0
     generalize (BF (l.take j)).length=p at *
     have HH:=kh hh;have hpl:=hh.lt;clear hh
     refine eK ?_;refine C1 (Ry Ab rfl rfl rfl (kN _ (by omega))) ?_;refine eK ?_;refine C1 (Qw rfl rfl (by omega) (Qj ‹_› (by omega))) ?_;refine eK ?_;refine C1 (Jt Ab rfl rfl rfl (by omega) (by omega)) ?_;refine Au (By (by kernel_rfl) rfl (HR.out _ ‹_› ‹_›) (fun _ _ ⟨_,_,h⟩=>⟨_,h.1⟩)) rfl ?_ (fun _ h=>h);rintro _ wd4 ⟨ad1,⟨cd2,⟨⟨⟩,xd3⟩⟩⟩;revert ha4 hE ht X hs;refine eY xd3 ?_;intro zd5 ha4 hE ht X hs;refine C1 Mv (C1 Px (C1 Px (C1 Px (C1 Pa (C1 Pa (C1 Pa (cT (Al (cS (C1 Mv (C1 V1 ?_)))))))))));refine cT (Ij (Av (Ai (cS (Ny rfl ?_)))));rintro rd6 wd7 rfl hd8 xd9 hd10;revert ha4 hE ht X hs;refine eY xd9 ?_;intro zd11 ha4 hE ht X hs;refine eK ?_;refine Au (UU Ab rfl rfl) rfl ?_ (fun _ h=>h);rintro _ wd17 ⟨rd12,⟨rfl,⟨hd13,⟨hd14,⟨hd15,xd16⟩⟩⟩⟩⟩;revert hd8 ha4 hE ht X hs;refine eY xd16 ?_;intro zd18 hd8 ha4 hE ht X hs;refine cT ?_
     have hM:=MapIs.toN hd8
     have hwm:w.heap.size<=wd4.heap.size:=by omega
     have hmr:wd4.heap.size<rd12:=by omega
     have hi:=hd15;clear hd8 hd15 ha4 hE ht hs HR hg0 hd10 hd13 hd14 hk
     generalize wd4.heap.size=mr at *
     have hL : ∃L:Int,L=((1+Lib.countByte (s.take p) 10:Nat):Int):=⟨_,rfl⟩;obtain ⟨L,hL⟩:=hL;rw [<-hL];refine Ax ?_;refine AM (ι:=Nat×List (Int×Value)) (fun x=>[(5,str s),(8,.slice ad1 0 cd2),(9,.int .i64 L),(10,.int .i64 4),(11,.map (some mr)),(12,.int .i64 ((1+Lib.countByte (s.take x.1) 10:Nat):Int)),(70,.pointer (some ⟨rd12,0,none⟩))])
      (fun x w'=>(p<x.1->Ge x.2 L=some (.bool true))/\ItAt w' rd12 s x.1/\MapN w' mr x.2/\Ext w w') (fun x=>s.length-x.1) (0,[]) sB ⟨fun h=>by omega,hi,hM,X⟩ ?_
     clear hi hM X;rintro ⟨q,kvs⟩ w1 ⟨hg,hi,hM,X⟩;simp only at hg hi hM;refine CW.sub (m:=[(5,str s),(8,.slice ad1 0 cd2),(9,.int .i64 L),(10,.int .i64 4),(11,.map (some mr)),(12,.int .i64 ((1+Lib.countByte (s.take q) 10:Nat):Int)),(70,.pointer (some ⟨rd12,0,none⟩))]) ?_ sB
     by_cases hlt:q<s.length
     . have hix:s[q]? = some s[q]:=kg hlt;have hcr:=UX hix;have hsk:=XE (p:=q) (q:=p) HH.out.at0;have hW:=(Kg s q).1
       generalize s[q]=x at *
       have hx8:=x.toNat_lt
       have hc1:x.toNat=10->Lib.countByte (s.take (q+E2 s q)) 10=Lib.countByte (s.take q) 10+1:=fun h=>by rw [hcr,AH (UInt8.toNat_inj.1 h)]
       have hc2:x.toNat≠10->Lib.countByte (s.take (q+E2 s q)) 10=Lib.countByte (s.take q) 10:=fun h=>by rw [hcr,At (fun e=>h (by rw [e];rfl)),Nat.add_zero]
       clear hcr
       have hx1:q=p->x.toNat≠10:=fun e=>by
        have h:=HH.out.at0
        rw [<-e,hix] at h
        rw [kG h]
        decide
       have h9:q=p->(s.take ((q:Int)+9).toNat).drop (q:Int).toNat=[101,120,101,114,99,105,115,101,32]:=fun e=>by
        rw [show ((q:Int)+9).toNat=q+9 by omega,Int.toNat_natCast,List.drop_take,Nat.add_sub_cancel_left,e]
        exact HH.out.eq
       obtain ⟨y,hy,hy1⟩ : ∃y:UInt8,(q=0\/s[((q:Int)-1).toNat]? = some y)/\(q=p->q=0\/y.toNat=10):=by
        by_cases hq0:q=0
        . exact ⟨0,kj hq0,fun _=>kj hq0⟩
        . refine ⟨s[q-1],kp (by rw [show ((q:Int)-1).toNat=q-1 by omega];exact kg (by omega)),fun e=>?_⟩
          rcases HH.out.pre with h|h
          . exact kj (by omega)
          . rw [<-e,kg (show q-1<s.length by omega)] at h
            rw [kG h]
            exact kp rfl
       have hg1:p<q+E2 s q->q≠p->Ge kvs L=some (.bool true):=fun h hn=>by
        rcases kK p q with h1|h1
        . exact hg h1
        . exact absurd (hsk h1 h).symm hn
       have hg2 : ∀i v,v = .bool true->(q=p->i=L)->p<q+E2 s q->Ge (IU kvs i v) L=some (.bool true):=fun i v hv hi h=>by
        by_cases hiL:i=L
        . subst hiL;rw [Tt,hv]
        . subst hv
          exact XD (hg1 h (fun e=>hiL (hi e))) _
       have hiL:q=p->((1+Lib.countByte (s.take (q+E2 s q)) 10:Nat):Int)=L:=fun e=>by
        rw [hc2 (hx1 e),hL,e]
       clear hg hsk HH hx1
       have hcb:Lib.countByte (s.take q) 10<=65536:=by
        have h1:=H9 (s.take q);rw [kU] at h1
        omega
       refine cS ?_;refine Au (UV rfl ‹_› ‹_›) rfl ?_ (fun _ h=>h);rintro _ we4 ⟨ce1,⟨rfl,⟨he2,fe3⟩⟩⟩;have ze5:=fe3.size;clear hi;revert hM X;refine eF fe3 ?_;intro hM X;refine C1 Px (cT (Al (CS rfl (Av (Ai (Ax (cS (C1 Px (C1 Pa (cT (Al ?_)))))))))))
       refine Fk (ι:=Unit) (fun _=>[(5,str s),(8,.slice ad1 0 cd2),(9,.int .i64 L),(10,.int .i64 4),(11,.map (some mr)),(12,.int .i64 ((1+Lib.countByte (s.take (q+E2 s q)) 10:Nat):Int)),(13,.int .i64 q),(70,.pointer (some ⟨rd12,0,none⟩))]) (fun _ w'=>ItAt w' rd12 s (q+E2 s q)/\MapN w' mr kvs/\Ext w w') ?_ ?_
       . by_cases hx:x.toNat=10
         . have hcc:=hc1 hx
           refine eK ?_;refine C1 (JW Ab rfl rfl rfl (by omega) ‹_›) (C1 V1 (cT (fE (Ag (C1 Mv (C1 V7 (C1 Pa (Ah ?_))))))))
           all_goals exact Cq () (by rw [hcc];(refine Am rfl ?_;refine Am rfl ?_;refine Am rfl ?_;refine Am rfl ?_;refine Am rfl ?_;refine Am rfl ?_;refine Am rfl ?_;refine Am rfl ?_;exact BB)) ⟨by assumption,hM,X⟩
         . have hcc:=hc2 hx
           refine eK ?_;refine C1 (JW Ab rfl rfl rfl (by omega) ‹_›) (C1 V1 (cT (E4 (Av ?_))))
           all_goals exact Cq () (by rw [hcc];(refine Am rfl ?_;refine Am rfl ?_;refine Am rfl ?_;refine Am rfl ?_;refine Am rfl ?_;refine Am rfl ?_;refine Am rfl ?_;refine Am rfl ?_;exact BB)) ⟨by assumption,hM,X⟩
       clear hc1 hc2 hM X;rintro-w2 ⟨hi,hM,X⟩;have hy8:=y.toNat_lt
       rcases hy with hq0|hy
       . focus
          refine eK ?_;refine C1 (Ju Ab rfl rfl rfl rfl (by omega) (by omega) (by omega)) ?_;refine eK ?_;refine AF rfl (fun ch1=>?_) (fun ch1=>?_);refine eK ?_;refine C8 (LS Ab rfl rfl rfl rfl rfl ‹_›) (F6 ?_);rintro _ wh4 ⟨hh2,fh3⟩;have zh5:=fh3.size;replace hi:=hi.fr fh3 (by omega);clear hM;replace X:=X.fr fh3 (by omega);refine Ah (Ad ?_);rotate_left;refine Av (Ad ?_);rotate_left
         all_goals first|exact Ay (q+E2 s q,IU kvs _ (.bool true)) (by (repeat (first|exact BB|refine Am rfl ?_|refine Bj rfl (by go_num) ?_))) ⟨hg2 _ _ rfl hiL,by assumption,by assumption,X⟩ (by (try dsimp only);omega)|exact Ay (q+E2 s q,kvs) sB ⟨fun h=>hg1 h (fun e=>by first|omega|(have:=h9 e;contradiction)),by assumption,by assumption,X⟩ (by (try dsimp only);omega)
       . focus
          refine eK ?_;refine DG rfl rfl rfl (fun ci1=>?_) (fun ci1=>?_);refine eK ?_;refine C1 (Ju Ab rfl rfl rfl rfl (by omega) (by omega) (by omega)) ?_;refine eK ?_;refine AF rfl (fun ci2=>?_) (fun ci2=>?_);refine eK ?_;refine C8 (LS Ab rfl rfl rfl rfl rfl ‹_›) (F6 ?_);rintro _ wi5 ⟨hi3,fi4⟩;have zi6:=fi4.size;replace hi:=hi.fr fi4 (by omega);clear hM;replace X:=X.fr fi4 (by omega);refine Ah (Ad ?_);rotate_left;refine Av (Ad ?_);rotate_left;refine eK ?_;refine C1 (CM rfl rfl (kN _ (by omega))) (dT (C1 (JW Ab rfl rfl rfl (by omega) ‹_›) ?_));refine eK ?_;refine AF rfl (fun ci7=>?_) (fun ci7=>?_);refine eK ?_;refine DG rfl rfl rfl (fun ci8=>?_) (fun ci8=>?_);refine eK ?_;refine C1 (Ju Ab rfl rfl rfl rfl (by omega) (by omega) (by omega)) ?_;refine eK ?_;refine AF rfl (fun ci9=>?_) (fun ci9=>?_);refine eK ?_;refine C8 (LS Ab rfl rfl rfl rfl rfl ‹_›) (F6 ?_);rintro _ wi12 ⟨hi10,fi11⟩;have zi13:=fi11.size;replace hi:=hi.fr fi11 (by omega);clear hM;replace X:=X.fr fi11 (by omega);refine Ah (Ad ?_);rotate_left;refine Av (Ad ?_);rotate_left;refine Wb (Wb (Wb (Wb (Wb (Wb (C1 XT (cT (CT rfl (Av (Ad ?_))))))))));rotate_left;refine Av (Ad ?_);rotate_left
         all_goals first|exact Ay (q+E2 s q,IU kvs _ (.bool true)) (by (repeat (first|exact BB|refine Am rfl ?_|refine Bj rfl (by go_num) ?_))) ⟨hg2 _ _ rfl hiL,by assumption,by assumption,X⟩ (by (try dsimp only);omega)|exact Ay (q+E2 s q,kvs) (by (repeat (first|exact BB|refine Am rfl ?_|refine Bj rfl (by go_num) ?_))) ⟨fun h=>hg1 h (fun e=>by first|(have:=hy1 e;omega)|(have:=h9 e;contradiction)),by assumption,by assumption,X⟩ (by (try dsimp only);omega)
     . have hgg:=hg (by omega);clear hg
       refine cS ?_;refine Au (UW rfl ‹_› ‹_›) rfl ?_ (fun _ h=>h);rintro _ wj1 ⟨rfl,rfl⟩;refine eK ?_;refine C1 (Tu Ab rfl rfl rfl rfl rfl (fun _ hw=>by subst hw;assumption) hgg) ?_;refine eK ?_;refine Bo rfl rfl ?_
       all_goals exact ⟨rfl,X⟩
 . clear HW HV
   refine eK ?_;refine Bo rfl rfl ?_
   all_goals exact ⟨rfl,X⟩
def Id:nP:=fun _=>True
def Qk (W:wD) (b o:Nat) : ∀(len i0:Nat),(∀i,i<len -> ∃(t:Nd) (f:oA) (E:Nat),t.wf/\W.cell? ⟨b,o+(i0+i)*4,none⟩=some (.int .u8 t.kind)/\W.cell? ⟨b,o+(i0+i)*4+1,none⟩=some (.int .i64 t.num)/\W.cell? ⟨b,o+(i0+i)*4+2,none⟩=some (str t.name)/\W.cell? ⟨b,o+(i0+i)*4+3,none⟩=some (.slice f t.kids.length E)/\t.sits Id W f) ->
 ∃l:List Nd,l.length=len/\Bc l/\rowSits Id W l (some ⟨b,o+i0*4,none⟩)
 | 0,_,_=>⟨[],rfl,by simp [Bc],by simp [rowSits]⟩
 | len+1,i0,h=>by
  obtain ⟨l,U,V,X⟩:=Qk W b o len (i0+1) (fun i Y=>by
   have:=h (i+1) Aa;rwa [show i0+(i+1)=i0+1+i from by omega] at this)
  obtain ⟨t,f,E,F,M,h1,N,O,L⟩:=h 0 Aa;rw [Nat.add_zero] at M h1 N O;refine ⟨t::l,by simp [U],by simp [Bc,F,V],?_⟩;simp only [rowSits];refine ⟨b,o+i0*4,f,E,rfl,trivial,M,h1,N,O,L,?_⟩;rwa [show o+i0*4+4=o+(i0+1)*4 from by omega]
def gW {W:wD} {a:Addr} {cs:lV} (h:W.cells? 0 a 4=some cs) : ∃c0 f c2 c3,cs=[c0,f,c2,c3]/\W.cell? (a.add 0)=some c0/\W.cell? (a.add 1)=some f/\W.cell? (a.add 2)=some c2/\W.cell? (a.add 3)=some c3:=by
 unfold World.cells? at h;rw [AH (kC _)] at h;rw [show List.range 4=[0,1,2,3] from rfl] at h;cases e0:W.cell? (a.add 0)<;>simp [e0] at h
 cases e1:W.cell? (a.add 1)<;>simp [e1] at h
 cases e2:W.cell? (a.add 2)<;>simp [e2] at h
 cases e3:W.cell? (a.add 3)<;>simp [e3] at h
 exact ⟨_,_,_,_,h.symm,rfl,rfl,rfl,rfl⟩
def XF (b o n m:Nat):((⟨b,o,none⟩:Addr).add n).add m=⟨b,o+n+m,none⟩:=by
 unfold lA;by_cases f:n=0<;>by_cases h:m=0<;>simp [f,h]
def JJ:prog.cellsOf 32=4:=by kernel_rfl
def ZI:prog.cellsOf 5=1:=by kernel_rfl
def ZJ:prog.cellsOf 3=1:=by kernel_rfl
def UY:prog.cellsOf 9=1:=by kernel_rfl
def dH:prog.cellsOf 30=1:=by kernel_rfl
def Lc {H:Type} (enc:TypeId×Value->H) (W:wD) (sp:Nat->Bool) (N:Nat) : ∀(E:Nat),E<N -> ∀(cs:lV) (x:DataW H×List MemPlace),kZ enc prog W 0 sp true E 32 cs=some x ->
 ∃(t:Nd) (a:oA) (c:Nat),cs=[.int .u8 t.kind,.int .i64 t.num,str t.name,.slice a t.kids.length c]/\t.wf/\t.sits Id W a:=by
 induction N with
 | zero=>intro E h;omega
 | succ N ih=>
  intro E hN cs x h;obtain ⟨xs,n,rfl,-,hl,ab,hf⟩:=DataW.trod_struct underlying32 h;rw [JJ] at hl;obtain ⟨c0,V,c2,c3,rfl⟩ : ∃c0 V c2 c3,cs=[c0,V,c2,c3]:=by
   rcases cs with _|⟨c0,_|⟨V,_|⟨c2,_|⟨c3,_|⟨c4,cs⟩⟩⟩⟩⟩
   . simp at hl
   . simp at hl
   . simp at hl
   . simp at hl
   . exact ⟨_,_,_,_,rfl⟩
   . simp at hl
  obtain ⟨y0,y1,y2,y3,rfl⟩ : ∃y0 y1 y2 y3,xs=[y0,y1,y2,y3]:=by
   have f:xs.length=4:=ab;rcases xs with _|⟨c0,_|⟨V,_|⟨c2,_|⟨c3,_|⟨c4,cs⟩⟩⟩⟩⟩
   . simp at f
   . simp at f
   . simp at f
   . simp at f
   . exact ⟨_,_,_,_,rfl⟩
   . simp at f
  . have f0:kZ enc prog W 0 sp true n 5 (([c0,V,c2,c3].drop 0).take (prog.cellsOf 5))=some y0:=hf 0 _ rfl;have f1:kZ enc prog W 0 sp true n 3 (([c0,V,c2,c3].drop 1).take (prog.cellsOf 3))=some y1:=hf 1 _ rfl;have f2:kZ enc prog W 0 sp true n 9 (([c0,V,c2,c3].drop 2).take (prog.cellsOf 9))=some y2:=hf 2 _ rfl;have f3:kZ enc prog W 0 sp true n 30 (([c0,V,c2,c3].drop 3).take (prog.cellsOf 30))=some y3:=hf 3 _ rfl;simp only [ZI,ZJ,UY,dH,List.drop_zero,List.drop_succ_cons,lo,List.take_zero] at f0 f1 f2 f3;obtain ⟨k,hk,-,wk⟩:=DataW.trod_int (show prog.underlying 5=some (.int .u8) by kernel_rfl) f0;obtain ⟨m,hm,-,wm⟩:=DataW.trod_int underlying3 f1;obtain ⟨s,hs,-,ws⟩:=DataW.trod_string (show prog.underlying 9=some .string by kernel_rfl) f2;simp only [kQ,and_true] at hk hm hs;subst hk hm hs;have F:0<=k/\k<=255:=by simpa [Lit.wf,IntKind.min,IntKind.max,IntKind.signed,IntKind.bits] using wk
    have L : -9223372036854775808<=m/\m<=9223372036854775807:=by simpa [Lit.wf,IntKind.min,IntKind.max,IntKind.signed,IntKind.bits] using wm
    have Y:s.data.toList.length<=9223372036854775807:=by
     have:s.data.toList.length=s.size:=by rw [Array.length_toList];rfl
     unfold maxLen at ws;omega
    rcases DataW.trod_slice underlying30 f3 with ⟨hc,-⟩|⟨a,len,cap,M,rest,n',ai,hc,-,-,aj,ae,ak,hE,-⟩
    . simp only [kQ,and_true] at hc;subst hc;exact ⟨.mk k m s.data.toList [],none,0,rfl,⟨F.1,F.2,L.1,L.2,Y,A6,by simp [Bc]⟩,by simp [Nd.sits,rowSits]⟩
    . simp only [kQ,and_true] at hc;subst hc;rw [JJ] at hE;rcases Nat.eq_zero_or_pos len with h0|ac
      . subst h0;exact ⟨.mk k m s.data.toList [],some a,cap,rfl,⟨F.1,F.2,L.1,L.2,Y,A6,by simp [Bc]⟩,by simp [Nd.sits,rowSits]⟩
      . have step : ∀i,i<len -> ∃(t:Nd) (Z:oA) (c':Nat),t.wf/\W.cell? ((a.add (i*4)).add 0)=some (.int .u8 t.kind)/\W.cell? ((a.add (i*4)).add 1)=some (.int .i64 t.num)/\W.cell? ((a.add (i*4)).add 2)=some (str t.name)/\W.cell? ((a.add (i*4)).add 3)=some (.slice Z t.kids.length c')/\t.sits Id W Z:=by
         intro i hi;have O:=hE i hi;cases hc4:W.cells? 0 (a.add (i*4)) 4 with
         | none=>
          rw [hc4] at O;have hh:M[i]? = some M[i]:=kg Aa;rw [hh] at O;simp at O
         | some al=>
          rw [hc4,kg Aa] at O;obtain ⟨d0,d1,d2,d3,rfl,U,e1,e2,e3⟩:=gW hc4;obtain ⟨t,Z,c',ad,hw,hs⟩:=ih n' Aa _ _ O;simp only [kQ,and_true] at ad;obtain ⟨rfl,rfl,rfl,rfl⟩:=ad;exact ⟨t,Z,c',hw,U,e1,e2,e3,hs⟩
        obtain ⟨b,o,X⟩:=a;have aa:X=none:=by
         obtain ⟨t,Z,c',-,U,-⟩:=step 0 ac;simp only [Nat.zero_mul,lA,if_true] at U;unfold World.cell? at U;cases X with
         | none=>rfl
         | some q=>simp at U;split at U<;>simp at U
        subst aa;obtain ⟨l,af,ag,ah⟩:=Qk W b o len 0 (fun i hi=>by
         obtain ⟨t,Z,c',hw,U,e1,e2,e3,hs⟩:=step i hi;rw [XF] at U e1 e2 e3;rw [Nat.zero_add];exact ⟨t,Z,c',hw,U,e1,e2,e3,hs⟩)
        subst af;refine ⟨.mk k m s.data.toList l,some ⟨b,o,none⟩,cap,rfl,⟨F.1,F.2,L.1,L.2,Y,by unfold maxLen at ae;omega,ag⟩,?_⟩;simpa [Nd.sits] using ah
def XG {W:wD} {p:Addr} {k:Nat} {cs:lV} (h:W.cells? 0 p k=some cs):Row W p cs/\cs.length=k:=by
 unfold World.cells? at h;rw [AH (kC _)] at h;refine ⟨fun i v f=>?_,by simpa using mapM_some_length h⟩;have L:cs.length=k:=by simpa using mapM_some_length h
 have E:i<k:=by
  rcases kK i cs.length with F|F
  . omega
  . rw [kO F] at f;cases f
 have:=mapM_some_get h i i (by simp [E]);rw [f] at this;exact this
def ZK (b o i:Nat):(⟨b,o,none⟩:Addr).add i=⟨b,o+i,none⟩:=by unfold lA;by_cases f:i=0<;>simp [f]
def Mz {α H:Type} (enc:TypeId×Value->H) (W:wD) (sp:Nat->Bool) {t e k:Nat} (ht:prog.underlying t=some (.slice e)) (hk:prog.cellsOf e=k) (aa:0<k) (G:lV->α->Prop)
 {E:Nat} (hG : ∀(n:Nat) (cs:lV) (x:DataW H×List MemPlace),n<E->kZ enc prog W 0 sp true n e cs=some x -> ∃y,G cs y) {c:Value} {x:DataW H×List MemPlace} (h:kZ enc prog W 0 sp true E t [c]=some x) :
 ∃(l:List α) (a:oA) (cap:Nat),c = .slice a l.length cap/\l.length<=9223372036854775807/\Arr Id k (fun w b o y=> ∃cs,Row w ⟨b,o,none⟩ cs/\G cs y) W l a:=by
 rcases DataW.trod_slice ht h with ⟨M,-⟩|⟨a,len,cap,U,rest,n',ab,M,-,-,ac,V,ad,hE,-⟩
 . simp only [kQ,and_true] at M;exact ⟨[],none,0,M,A6,kj rfl⟩
 . simp only [kQ,and_true] at M;rw [hk] at hE;unfold maxLen at V;rcases Nat.eq_zero_or_pos len with h0|N
   . subst h0;exact ⟨[],some a,cap,M,A6,kj rfl⟩
   . have step : ∀i,i<len -> ∃y cs,Row W (a.add (i*k)) cs/\cs.length=k/\G cs y:=fun i X=>by
      have f:=hE i X;cases hc4:W.cells? 0 (a.add (i*k)) k with
      | none=>
       rw [hc4,kg Aa] at f;simp at f
      | some cs=>
       rw [hc4,kg Aa] at f;obtain ⟨r1,r2⟩:=XG hc4;obtain ⟨y,hy⟩:=hG n' cs _ Aa f;exact ⟨y,cs,r1,r2,hy⟩
     obtain ⟨b,o,O⟩:=a;have F:O=none:=by
      obtain ⟨y,cs,r,Y,-⟩:=step 0 N;simp only [Nat.zero_mul,lA,if_true] at r;cases cs with
      | nil=>simp at Y;omega
      | cons v vs=>
       have:=r 0 v rfl;simp only [lA,if_true] at this;exact VU this
     subst F;have Y : ∃l:List α,l.length=len /\ ∀i y,l[i]? = some y -> ∃cs,Row W ⟨b,o+i*k,none⟩ cs/\G cs y:=by
      have key : ∀m,m<=len -> ∃l:List α,l.length=m /\ ∀i y,l[i]? = some y -> ∃cs,Row W ⟨b,o+i*k,none⟩ cs/\G cs y:=by
       intro m
       induction m with
       | zero=>intro _;exact ⟨[],rfl,A6⟩
       | succ m ih=>
        intro hm;obtain ⟨l,h1,Z⟩:=ih Aa;obtain ⟨y,cs,r,-,hg⟩:=step m Aa;rw [ZK] at r;refine ⟨l++[y],by simp [h1],fun i z L=>?_⟩;rcases kK i m with X|X
        . rw [lI Aa] at L;exact Z i z L
        . rw [lH Aa] at L;obtain rfl:i=m:=by
           rcases kK m i with h'|h'
           . rw [kO (by simp;omega)] at L;cases L
           . omega
          simp [h1] at L;subst L;exact ⟨cs,r,hg⟩
      exact key len (kv _)
     obtain ⟨l,h1,Z⟩:=Y;subst h1;exact ⟨l,some ⟨b,o,none⟩,cap,M,Aa,kp ⟨b,o,rfl,trivial,Z⟩⟩
def jJ {cs:lV} (h:cs.length=3) : ∃a b c,cs=[a,b,c]:=by
 rcases cs with _|⟨a,_|⟨b,_|⟨c,_|⟨d,r⟩⟩⟩⟩<;>simp at h;exact ⟨a,b,c,rfl⟩
def dI {cs:lV} (h:cs.length=6) : ∃a b c d e f,cs=[a,b,c,d,e,f]:=by
 rcases cs with _|⟨a,_|⟨b,_|⟨c,_|⟨d,_|⟨e,_|⟨f,_|⟨g,r⟩⟩⟩⟩⟩⟩⟩<;>simp at h;exact ⟨a,b,c,d,e,f,rfl⟩
def BY {α:Type} {xs:List α} {n i:Nat} (h:xs.length=n) (f:i<n) : ∃y,xs[i]? = some y:=⟨xs[i],kg Aa⟩
def jP:prog.cellsOf 93=3:=by kernel_rfl
def jo:prog.cellsOf 28=1:=by kernel_rfl
def jQ:prog.cellsOf 90=6:=by kernel_rfl
def jK:prog.cellsOf 29=1:=by kernel_rfl
def j7:prog.cellsOf 34=6:=by kernel_rfl
section
variable {H:Type} (enc:TypeId×Value->H) (W:wD) (sp:Nat->Bool)
def UZ {E:Nat} {cs:lV} {x:DataW H×List MemPlace} (h:kZ enc prog W 0 sp true E 93 cs=some x) : ∃v:VD,cs=v.cells/\v.wf:=by
 obtain ⟨xs,n,rfl,-,U,f,M⟩:=DataW.trod_struct underlying93 h;rw [jP] at U;obtain ⟨c0,N,c2,rfl⟩:=jJ U;obtain ⟨y0,e0⟩:=BY (i:=0) f Ao;obtain ⟨y1,e1⟩:=BY (i:=1) f Ao;obtain ⟨y2,e2⟩:=BY (i:=2) f Ao;have V:kZ enc prog W 0 sp true n 9 (([c0,N,c2].drop 0).take (prog.cellsOf 9))=some y0:=(M 0 _ rfl).trans e0;have X:kZ enc prog W 0 sp true n 5 (([c0,N,c2].drop 1).take (prog.cellsOf 5))=some y1:=(M 1 _ rfl).trans e1;have Y:kZ enc prog W 0 sp true n 3 (([c0,N,c2].drop 2).take (prog.cellsOf 3))=some y2:=(M 2 _ rfl).trans e2;simp only [ZI,ZJ,UY,List.drop_zero,List.drop_succ_cons,lo,List.take_zero] at V X Y;obtain ⟨s,Z,-,ws⟩:=DataW.trod_string Fi V;obtain ⟨k,hk,-,wk⟩:=DataW.trod_int (show prog.underlying 5=some (.int .u8) by kernel_rfl) X;obtain ⟨m,hm,-,wm⟩:=DataW.trod_int underlying3 Y;simp only [kQ,and_true] at hk hm Z;subst hk hm Z;have F:0<=k/\k<=255:=by simpa [Lit.wf,IntKind.min,IntKind.max,IntKind.signed,IntKind.bits] using wk
 have L : -9223372036854775808<=m/\m<=9223372036854775807:=by simpa [Lit.wf,IntKind.min,IntKind.max,IntKind.signed,IntKind.bits] using wm
 have O:s.data.toList.length<=9223372036854775807:=by
  have:s.data.toList.length=s.size:=by rw [Array.length_toList];rfl
  unfold maxLen at ws;omega
 exact ⟨⟨s.data.toList,k,m⟩,rfl,O,F.1,F.2,L.1,L.2⟩
end
def Ld {α H:Type} (enc:TypeId×Value->H) (W:wD) (sp:Nat->Bool) {t e k:Nat} (M:prog.underlying t=some (.slice e)) (O:prog.cellsOf e=k) (F:0<k) (G:lV->α->Prop)
 {f:Nat} (U : ∀(n:Nat) (cs:lV) (x:DataW H×List MemPlace),n<f->kZ enc prog W 0 sp true n e cs=some x -> ∃y,G cs y) {c:Value} {x:DataW H×List MemPlace} (h:kZ enc prog W 0 sp true f t [c]=some x) :
 ∃(l:List α) (a:oA) (cap:Nat),c = .slice a l.length cap/\l.length<=9223372036854775807/\Arr Id k (fun w b o y=> ∃cs,Row w ⟨b,o,none⟩ cs/\G cs y) W l a/\l.length<=cap:=by
 obtain ⟨l,a,cap,h1,V,X⟩:=Mz enc W sp M O F G U h;refine ⟨l,a,cap,h1,V,X,?_⟩;rcases DataW.trod_slice M h with ⟨E,-⟩|⟨a',len,N,L,rest,n',Y,E,-,-,Z,-⟩
 . simp only [kQ,and_true] at E;rw [h1] at E;simp only [kT] at E;omega
 . simp only [kQ,and_true] at E;rw [h1] at E;simp only [kT] at E;omega
section
variable {H:Type} (enc:TypeId×Value->H) (W:wD) (sp:Nat->Bool)
def Lf {f:Nat} {c:Value} {x:DataW H×List MemPlace} (h:kZ enc prog W 0 sp true f 28 [c]=some x) :
 ∃(l:List VD) (a:oA) (cap:Nat),c = .slice a l.length cap/\l.length<=9223372036854775807/\(∀v∈l,v.wf)/\VDs Id W l a/\l.length<=cap:=by
 obtain ⟨l,a,cap,h1,L,E,M⟩:=Ld (α:=VD) enc W sp underlying28 jP Ao (fun cs v=>cs=v.cells/\v.wf) (fun n cs x _ N=>UZ enc W sp N) h;refine ⟨l,a,cap,h1,L,fun v F=>?_,E.mono aFh (fun b o v _ _ ⟨cs,r,e,_⟩=>by subst e;exact r),M⟩;rcases E with rfl|⟨b,o,-,-,O⟩
 . cases F
 . obtain ⟨i,U,rfl⟩:=List.mem_iff_getElem.1 F;obtain ⟨cs,-,-,V⟩:=O i _ (kg U);exact V
def Tw {E:Nat} {cs:lV} {x:DataW H×List MemPlace} (h:kZ enc prog W 0 sp true E 90 cs=some x) : ∃p:PD,(∃M N O U,cs=p.cells M N O U/\VDs Id W p.params M/\p.body.sits Id W O/\p.params.length<=N)/\p.wf:=by
 obtain ⟨xs,n,rfl,-,hl,f,V⟩:=DataW.trod_struct underlying90 h;rw [jQ] at hl;obtain ⟨c0,X,c2,c3,c4,c5,rfl⟩:=dI hl;obtain ⟨y0,e0⟩:=BY (i:=0) f Ao;obtain ⟨y1,e1⟩:=BY (i:=1) f Ao;obtain ⟨y2,e2⟩:=BY (i:=2) f Ao;have f0:kZ enc prog W 0 sp true n 9 (([c0,X,c2,c3,c4,c5].drop 0).take (prog.cellsOf 9))=some y0:=(V 0 _ rfl).trans e0;have f1:kZ enc prog W 0 sp true n 28 (([c0,X,c2,c3,c4,c5].drop 1).take (prog.cellsOf 28))=some y1:=(V 1 _ rfl).trans e1;have f2:kZ enc prog W 0 sp true n 32 (([c0,X,c2,c3,c4,c5].drop 2).take (prog.cellsOf 32))=some y2:=(V 2 _ rfl).trans e2;simp only [jo,UY,JJ,List.drop_zero,List.drop_succ_cons,lo,List.take_zero] at f0 f1 f2;obtain ⟨s,hs,-,ws⟩:=DataW.trod_string Fi f0;obtain ⟨l,M,N,hc,Y,Z,aa,ab⟩:=Lf enc W sp f1;obtain ⟨t,O,U,F,hw,L⟩:=Lc enc W sp (n+1) n Aa _ _ f2;simp only [kQ,and_true] at hs F;obtain ⟨rfl,rfl,rfl,rfl⟩:=F;subst hs hc;have ac:s.data.toList.length<=9223372036854775807:=by
  have:s.data.toList.length=s.size:=by rw [Array.length_toList];rfl
  unfold maxLen at ws;omega
 exact ⟨⟨s.data.toList,l,t⟩,⟨M,N,O,U,rfl,aa,L,ab⟩,ac,Y,Z,hw⟩
def Tx {M:Nat} {cs:lV} {x:DataW H×List MemPlace} (h:kZ enc prog W 0 sp true M 34 cs=some x) : ∃(g:PG) (Y:oA) (Z:Nat) (f:oA) (F:Nat) (ma:oA) (mc:Nat),cs=g.cells Y Z f F ma mc/\g.wf/\g.sits Id W Y f ma/\PDsC Id W g.procs f/\g.vars.length<=Z:=by
 obtain ⟨xs,n,rfl,-,hl,E,hf⟩:=DataW.trod_struct underlying34 h;rw [j7] at hl;obtain ⟨c0,c1,c2,c3,c4,c5,rfl⟩:=dI hl;obtain ⟨y0,e0⟩:=BY (i:=0) E Ao;obtain ⟨y1,e1⟩:=BY (i:=1) E Ao;obtain ⟨y2,e2⟩:=BY (i:=2) E Ao;have f0:kZ enc prog W 0 sp true n 28 (([c0,c1,c2,c3,c4,c5].drop 0).take (prog.cellsOf 28))=some y0:=(hf 0 _ rfl).trans e0;have f1:kZ enc prog W 0 sp true n 29 (([c0,c1,c2,c3,c4,c5].drop 1).take (prog.cellsOf 29))=some y1:=(hf 1 _ rfl).trans e1;have f2:kZ enc prog W 0 sp true n 32 (([c0,c1,c2,c3,c4,c5].drop 2).take (prog.cellsOf 32))=some y2:=(hf 2 _ rfl).trans e2;simp only [jo,jK,JJ,List.drop_zero,List.drop_succ_cons,lo,List.take_zero] at f0 f1 f2;obtain ⟨l,Y,Z,hc,aa,ab,ac,ad⟩:=Lf enc W sp f0;obtain ⟨ps,f,F,hp,ae,N⟩:=Mz (α:=PD) enc W sp underlying29 jQ Ao (fun cs p=>(∃f F L O,cs=p.cells f F L O/\VDs Id W p.params f/\p.body.sits Id W L/\p.params.length<=F)/\p.wf) (fun n cs x _ hx=>Tw enc W sp hx) f1;obtain ⟨t,L,O,U,hw,V⟩:=Lc enc W sp (n+1) n Aa _ _ f2;simp only [kQ,and_true] at U;obtain ⟨rfl,rfl,rfl,rfl⟩:=U;subst hc hp;have X:PDsC Id W ps f:=N.mono aFh (fun b o p _ _ ⟨cs,r,⟨f,F,L,O,e,h1,h2,h3⟩,_⟩=>by
  subst e;exact ⟨f,F,L,O,r,h1,h2,h3⟩)
 refine ⟨⟨l,ps,t⟩,Y,Z,f,F,L,O,rfl,⟨aa,ae,ab,fun p hp=>?_,hw⟩,⟨ac,X.pds,V⟩,X,ad⟩;rcases N with rfl|⟨b,o,-,-,hh⟩
 . cases hp
 . obtain ⟨i,hi,rfl⟩:=List.mem_iff_getElem.1 hp;obtain ⟨cs,-,-,hw⟩:=hh i _ (kg hi);exact hw
end
section
variable {H:Type} (enc:TypeId×Value->H) (W:wD) (sp:Nat->Bool)
def ZL:prog.cellsOf 3=1:=by kernel_rfl
def dJ:prog.cellsOf 9=1:=by kernel_rfl
def ZM:prog.cellsOf 38=3:=by kernel_rfl
def jp:prog.cellsOf 34=6:=by kernel_rfl
def eU:prog.cellsOf 40=12:=by kernel_rfl
def jq {cs:lV} (h:cs.length=3) : ∃a b c,cs=[a,b,c]:=by
 rcases cs with _|⟨a,_|⟨b,_|⟨c,_|⟨d,l⟩⟩⟩⟩<;>simp at h
 exact ⟨_,_,_,rfl⟩
def jr {cs:lV} (h:cs.length=12) : ∃a b c d e f E F L M N O,cs=[a,b,c,d,e,f,E,F,L,M,N,O]:=by
 obtain ⟨a,b,c,d,e,f,h1⟩:=dI (cs:=cs.take 6) (by rw [kU];omega);obtain ⟨E,F,L,M,N,O,U⟩:=dI (cs:=cs.drop 6) (by rw [List.length_drop];omega);refine ⟨a,b,c,d,e,f,E,F,L,M,N,O,?_⟩;rw [<-lf 6 cs,h1,U];rfl
def F0 {f:Nat} {c:Value} {x:DataW H×List MemPlace} (h:kZ enc prog W 0 sp true f 3 [c]=some x) : ∃m:Int,c = .int .i64 m /\ -9223372036854775808<=m/\m<=9223372036854775807:=by
 obtain ⟨m,E,-,F⟩:=DataW.trod_int underlying3 h;simp only [kQ,and_true] at E;exact ⟨m,E,by simpa [Lit.wf,IntKind.min,IntKind.max,IntKind.signed,IntKind.bits] using F⟩
def Ty {E:Nat} {cs:lV} {x:DataW H×List MemPlace} (h:kZ enc prog W 0 sp true E 38 cs=some x) :
 ∃b:BoxV,cs=[.int .i64 b.v,.int .i64 b.l,.int .i64 b.i]/\(-9223372036854775808<=b.v/\b.v<=9223372036854775807)/\(-9223372036854775808<=b.l/\b.l<=9223372036854775807) /\ -9223372036854775808<=b.i/\b.i<=9223372036854775807:=by
 obtain ⟨xs,n,rfl,-,N,f,F⟩:=DataW.trod_struct underlying38 h;rw [ZM] at N;obtain ⟨c0,L,c2,rfl⟩:=jq N;obtain ⟨X,Y⟩:=BY (i:=0) f Ao;obtain ⟨Z,e1⟩:=BY (i:=1) f Ao;obtain ⟨y2,e2⟩:=BY (i:=2) f Ao;have O:kZ enc prog W 0 sp true n 3 (([c0,L,c2].drop 0).take (prog.cellsOf 3))=some X:=(F 0 _ rfl).trans Y;have U:kZ enc prog W 0 sp true n 3 (([c0,L,c2].drop 1).take (prog.cellsOf 3))=some Z:=(F 1 _ rfl).trans e1;have V:kZ enc prog W 0 sp true n 3 (([c0,L,c2].drop 2).take (prog.cellsOf 3))=some y2:=(F 2 _ rfl).trans e2;simp only [ZL,List.drop_zero,List.drop_succ_cons,lo,List.take_zero] at O U V;obtain ⟨v,rfl,hv⟩:=F0 enc W sp O;obtain ⟨l,rfl,M⟩:=F0 enc W sp U;obtain ⟨i,rfl,hi⟩:=F0 enc W sp V;exact ⟨⟨v,l,i⟩,rfl,hv,M,hi⟩
def Tz {E:Nat} {cs:lV} {x:DataW H×List MemPlace} (h:kZ enc prog W 0 sp true E 40 cs=some x) :
 ∃(e:EX) (X:oA) (Y:Nat) (Z:oA) (pc:Nat) (ma:oA) (mc:Nat),cs=e.cells X Y Z pc ma mc/\(e.name.length<=9223372036854775807/\e.g.wf)/\e.rng/\e.sits Id W X Z ma Y:=by
 obtain ⟨xs,n,rfl,-,hl,f,F⟩:=DataW.trod_struct underlying40 h;rw [eU] at hl;obtain ⟨c0,L,c2,c3,c4,c5,M,N,O,c9,ca,U,rfl⟩:=jr hl;obtain ⟨y0,e0⟩:=BY (i:=0) f Ao;obtain ⟨y1,e1⟩:=BY (i:=1) f Ao;obtain ⟨y2,e2⟩:=BY (i:=2) f Ao;obtain ⟨y3,e3⟩:=BY (i:=3) f Ao;obtain ⟨y4,e4⟩:=BY (i:=4) f Ao;have f0:kZ enc prog W 0 sp true n 9 (([c0,L,c2,c3,c4,c5,M,N,O,c9,ca,U].drop 0).take (prog.cellsOf 9))=some y0:=(F 0 _ rfl).trans e0;have f1:kZ enc prog W 0 sp true n 3 (([c0,L,c2,c3,c4,c5,M,N,O,c9,ca,U].drop 1).take (prog.cellsOf 3))=some y1:=(F 1 _ rfl).trans e1;have f2:kZ enc prog W 0 sp true n 3 (([c0,L,c2,c3,c4,c5,M,N,O,c9,ca,U].drop 2).take (prog.cellsOf 3))=some y2:=(F 2 _ rfl).trans e2;have f3:kZ enc prog W 0 sp true n 38 (([c0,L,c2,c3,c4,c5,M,N,O,c9,ca,U].drop 3).take (prog.cellsOf 38))=some y3:=(F 3 _ rfl).trans e3;have f4:kZ enc prog W 0 sp true n 34 (([c0,L,c2,c3,c4,c5,M,N,O,c9,ca,U].drop 6).take (prog.cellsOf 34))=some y4:=(F 4 _ rfl).trans e4;simp only [ZL,dJ,ZM,jp,List.drop_zero,List.drop_succ_cons,lo,List.take_zero] at f0 f1 f2 f3 f4;obtain ⟨s,hs,-,ws⟩:=DataW.trod_string Fi f0;obtain ⟨po,rfl,hp⟩:=F0 enc W sp f1;obtain ⟨fu,rfl,hu⟩:=F0 enc W sp f2;obtain ⟨b,hb,aa,ab,ac⟩:=Ty enc W sp f3;obtain ⟨g,X,Y,Z,pc,ma,mc,hg,ad,V,ae,af⟩:=Tx enc W sp f4;simp only [kQ,and_true] at hs hb;obtain ⟨rfl,rfl,rfl⟩:=hb;subst hs
 unfold PG.cells at hg;simp only [kQ,and_true] at hg;obtain ⟨rfl,rfl,rfl,rfl,rfl,rfl⟩:=hg;have ag:s.data.toList.length<=9223372036854775807:=by
  have:s.data.toList.length=s.size:=by rw [Array.length_toList];rfl
  unfold maxLen at ws;omega
 exact ⟨⟨s.data.toList,po,fu,b,g⟩,X,Y,Z,pc,ma,mc,rfl,⟨ag,ad⟩,⟨hp,hu,aa,ab,ac⟩,⟨V,ae,af⟩⟩
end
def Rp {H:Type} (enc:TypeId×Value->H) (W:wD) (sp:Nat->Bool) {f:Nat} {c:Value} {x:DataW H×List MemPlace} (h:kZ enc prog W 0 sp true f 22 [c]=some x) :
 ∃(l:List EX) (a:oA) (cap:Nat),c = .slice a l.length cap/\l.length<=9223372036854775807/\l.length<=cap/\(∀e∈l,(e.name.length<=9223372036854775807/\e.g.wf)/\e.rng)/\EXs Id W l a:=by
 obtain ⟨l,a,cap,h1,X,U,Y⟩:=Ld (α:=EX) enc W sp underlying22 eU Ao (fun cs e=> ∃E F L N M O,cs=e.cells E F L N M O/\(e.name.length<=9223372036854775807/\e.g.wf)/\e.rng/\e.sits Id W E L M F) (fun n cs x _ Z=>Tz enc W sp Z) h;refine ⟨l,a,cap,h1,X,Y,fun e V=>?_,U.mono aFh (fun b o e _ _ ⟨cs,r,E,F,L,N,M,O,k,_,_,s⟩=>by subst k;exact ⟨E,F,L,N,M,O,r,s⟩)⟩;rcases U with rfl|⟨b,o,-,-,hh⟩
 . cases V
 . obtain ⟨i,hi,rfl⟩:=List.mem_iff_getElem.1 V;obtain ⟨cs,-,E,F,L,N,M,O,-,k1,k2,-⟩:=hh i _ (kg hi);exact ⟨k1,k2⟩
def exs_of_trod {H:Type} (enc:TypeId×Value->H) (W:wD) {r:Reach} {F:Nat} {v:Value} {d:DataW H} {L:List MemPlace} {sp:Nat->Bool} (f:Value.okWide prog W r F 22 v) (h:DataW.Trod enc prog W 0 sp true 22 v d L) :
 ∃(l:List EX) (a:oA) (c:Nat),v = .slice a l.length c/\l.length<=9223372036854775807/\l.length<=c/\(∀e∈l,(e.name.length<=9223372036854775807/\e.g.wf)/\e.rng)/\EXs Id W l a:=by
 obtain ⟨a0,len,cap,rfl⟩:=Go.WideShapes.okWide_slice underlying22 f;obtain ⟨E,M⟩:=h;exact Rp enc W sp M
end Bk
namespace Bk
open Go Go.RowKit Go.Proofs
def Cut_d (l:List EX) (a:oA) (c:Nat) (n:Int) (w:wD) (f:l.length<=9223372036854775807) (_:l.length<=c) (h : ∀e∈l,(e.name.length<=9223372036854775807/\e.g.wf)/\e.rng) (E:EXs Id w l a) (F:0<=n) (h1:n<=65535) (L:TabsF w) (M:Errs2 w) :
 Calls prog 9 #[.slice a l.length c,.int .u16 n] w fun r w'=>r = .returned (.bool true)/\Ext w w':=jn l f (fun e N=>(h e N).1) n ⟨F,h1⟩ Id a c w E M L
open Go.Lib
def OS {H:Type} {enc:TypeId×Value->H} {P:Program} {w:wD} {base:Nat} {sp:Nat->Bool} {E:Bool} {f:Nat} {t e:TypeId} {n:Nat} {cs:lV} {L:List lB} {p:List MemPlace}
 (X:P.underlying t=some (.array n e)) (Y:P.underlying e=some .string) (M:P.cellsOf e=1) (N:P.cellsOf t=n)
 (h:kZ enc P w base sp E f t cs=some (.agg (L.map fun z=>.lit (.string z)),p)):cs=L.map str:=by
 cases f with
 | zero=>simp [kZ] at h
 | succ f=>
  simp only [kZ,X,M,N,Nat.mul_one] at h;split at h
  . rename_i hl;obtain ⟨xs,V,Z⟩:=Option.map_eq_some_iff.1 h;have F:xs.map (·.1)=L.map fun z=>(DataW.lit (.string z):DataW H):=by
     have:=congrArg Prod.fst Z;simpa using this
    have aa:xs.length=n:=by simpa using mapM_length V
    have ab:L.length=n:=by
     have:=congrArg List.length F;simp at this;omega
    apply List.ext_getElem?;intro i;by_cases hi:i<n
    . obtain ⟨b,hb,hf⟩:=mapM_at V i i (by simp [hi]);obtain ⟨z,hc,rfl,_⟩:=DataW.trod_string Y hf;have h1:cs[i]? = some (.string z):=by
       have:=congrArg (·[0]?) hc;simpa [List.getElem?_take,List.getElem?_drop] using this
      have O:(xs.map (·.1))[i]? = some (DataW.lit (.string z.data.toList):DataW H):=by simp [hb]
      rw [F] at O;simp only [List.getElem?_map,Option.map_eq_some_iff,DataW.lit.injEq,Lit.string.injEq] at O;obtain ⟨z',U,rfl⟩:=O;simp [h1,U]
    . rw [kO Aa,kO (by simp;omega)]
  . cases h
def gSym47:prog.globalNamed "backstep/arith.symbols" = some 1:=by kernel_rfl
def gSymT47:(prog.globals[1]?).map (·.type)=some 252:=by kernel_rfl
def dK:prog.underlying 252=some (.array 43 9):=by kernel_rfl
def dL:prog.cellsOf 252=43:=by kernel_rfl
def gX:prog.underlying 9=some .string:=by kernel_rfl
def gY:prog.cellsOf 9=1:=by kernel_rfl
def gErr47:prog.globalNamed "strconv.ErrRange" = some 4:=by kernel_rfl
def gErrT47:(prog.globals[4]?).map (·.type)=some 72:=by kernel_rfl
def gSyn47:prog.globalNamed "strconv.ErrSyntax" = some 3:=by kernel_rfl
def gSynT47:(prog.globals[3]?).map (·.type)=some 72:=by kernel_rfl
def gZ : ∃f,prog.underlying 72=some (.interface f):=⟨_,underlying72⟩
def gPow47:prog.globalNamed "internal/strconv.uint64pow10" = some 2:=by kernel_rfl
def gPowT47:(prog.globals[2]?).map (·.type)=some 261:=by kernel_rfl
def dM:prog.underlying 261=some (.array 20 240):=by kernel_rfl
def hO:prog.underlying 240=some (.int .u64):=by kernel_rfl
def hX:prog.cellsOf 240=1:=by kernel_rfl
def dN:prog.cellsOf 261=20:=by kernel_rfl
def XH:(YtjkgmpljepnmiaaGreatDoor.Rows.laid_backstep_arith_symbols:DataW Unit) = .agg (symbols.map fun z=>.lit (.string z)):=rfl
def XI:(YtjkgmpljepnmiaaGreatDoor.Rows.laid_internal_strconv_uint64pow10:DataW Unit)=tabData .u64 pow10Tab:=rfl
abbrev ZN:List (String×DataW Unit):=[("backstep/arith.symbols",YtjkgmpljepnmiaaGreatDoor.Rows.laid_backstep_arith_symbols),("math/bits.deBruijn32tab",YtjkgmpljepnmiaaGreatDoor.Rows.laid_math_bits_deBruijn32tab),("math/bits.deBruijn64tab",YtjkgmpljepnmiaaGreatDoor.Rows.laid_math_bits_deBruijn64tab),("internal/strconv.uint64pow10",YtjkgmpljepnmiaaGreatDoor.Rows.laid_internal_strconv_uint64pow10),("unicode/utf8.acceptRanges",YtjkgmpljepnmiaaGreatDoor.Rows.laid_unicode_utf8_acceptRanges),("strconv.ErrRange",YtjkgmpljepnmiaaGreatDoor.Rows.laid_strconv_ErrRange),("strconv.ErrSyntax",YtjkgmpljepnmiaaGreatDoor.Rows.laid_strconv_ErrSyntax),("unicode/utf8.first",YtjkgmpljepnmiaaGreatDoor.Rows.laid_unicode_utf8_first)]
def tabs47_of_laid {W:wD} (h:laidMetH prog ZN W) (U:W.ShapedOpen prog):TabsF W/\Errs2 W:=by
 have h':laidMet prog ZN W:=h;obtain ⟨ps,⟨g1,t1,am,f1,p1,q1,V,X,E,F,⟨g2,t2,an,f2,p2,q2,ao,ap,Y,aq,⟨g3,t3,ar,f3,p3,q3,au,av,Z,aw,⟨g4,t4,ax,f4,p4,q4,aa,ab,L,M,⟨g5,t5,ay,f5,p5,q5,az,a0,ac,a1,⟨g6,t6,a2,f6,p6,q6,ad,ae,N,af,⟨g7,t7,a3,f7,p7,q7,ag,ah,O,ai,⟨g8,t8,a4,f8,p8,q8,a5,a6,aj,a7,-,-⟩,-⟩,-⟩,-⟩,-⟩,-⟩,-⟩,-⟩,-⟩:=h';have key : ∀(nm:String) (g:Nat) (v:_),prog.globalNamed nm=some g->W.var? prog nm=some v->g<W.heap.size:=by
  intro nm g v hg hv;rcases kK g W.heap.size with ak|al
  . exact ak
  . unfold World.var? at hv;rw [hg] at hv;simp [ld al] at hv
 have k1:=key _ 1 _ BD E;have k2:=key _ 5 _ BD Y;have k3:=key _ 6 _ BD Z;have k4:=key _ 2 _ BD L;have k5:=key _ 8 _ BD ac;have k6:=key _ 4 _ BD N;have k7:=key _ 3 _ BD O;have k8:=key _ 7 _ BD aj;have hn:prog.globals.size=9:=by kernel_rfl
 have hg:prog.globals.size<=W.heap.size:=by rw [hn];omega
 obtain rfl:=kG (gSym47.symm.trans V);obtain rfl:=kG (gSymT47.symm.trans X);rw [XH] at F;have e1:=OS dK gX gY dL F;obtain rfl:=kG (gPow47.symm.trans aa);obtain rfl:=kG (gPowT47.symm.trans ab);rw [XI] at M;have e4:=cells_of_tab dM hO hX dN M;obtain rfl:=kG (gErr47.symm.trans ad);obtain rfl:=kG (gErrT47.symm.trans ae);obtain rfl:=kG (gSyn47.symm.trans ag);obtain rfl:=kG (gSynT47.symm.trans ah);obtain ⟨ms,hu⟩:=gZ;refine ⟨⟨⟨fun i hi=>?_,?_⟩,hg⟩,⟨⟨?_⟩,?_,?_⟩⟩
 . rw [World.var?_cell gSym47 E i,<-Array.getElem?_toList,e1,List.getElem?_map];have:symbols[i]? = some (symbols.getD i []):=by
    rw [List.getD_eq_getElem?_getD,kg (show i<symbols.length from hi)];rfl
   rw [this];rfl
 . unfold TabIs;rw [L,<-e4]
 . obtain ⟨f,u,v,hc,-,-⟩:=iface_of_trod hu af;refine ⟨u,v,?_⟩;rw [World.var?_cell gErr47 N 0,<-Array.getElem?_toList,hc];rfl
 . obtain ⟨f,u,v,hc,-,-⟩:=iface_of_trod hu ai;refine ⟨u,v,?_⟩;rw [World.var?_cell gSyn47 O 0,<-Array.getElem?_toList,hc];rfl
 . exact Go.Proofs.cell_of_shapedOpen_int (zero:= #[.int .i64 0]) (t:=3) U (of_decide_eq_true BD) BD rfl BD BD underlying3
end Bk
