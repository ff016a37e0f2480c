/- Texts that the proofs of ExerciseTwice, ExerciseOne need. No condition. (Part 7 of 8.) -/
import Derived.Test.YtjkgmpljepnmiaaGreatDoorPEto6
set_option linter.unusedSimpArgs false
set_option linter.unusedVariables false
set_option linter.defProp false
set_option maxRecDepth 100000
set_option maxHeartbeats 4000000
open Go.Proofs.Tryz
open List renaming length_append->ZZ,getElem?_eq_getElem->Z0,length_cons->Z1,length_nil->Z4,getElem_cons_succ->Z5,set_cons_zero->Z7,getElem_mem->Z8,take_succ_eq_append_getElem->aD,take_length->aH,flatten_cons->aJ,mem_cons->aK,getElem?_eq_none->aN,not_mem_nil->aR,replicate->aT,append_assoc->aW,take_append_drop->aZ,length_take->bB,drop_eq_getElem_cons->bD,getElem?_append_left->bG,take_succ_cons->bQ,all_eq_true->bR,getElem?_append_right->bS,getD_eq_getElem?_getD->bT,cons_append->bU,mem_singleton->bW,map_cons->bZ
open Go.Lib renaming hid->Z2,indexByte->bA
open Bool renaming and_eq_true->Z3,false_eq_true->bL
open Or renaming inl->Z6,inr->aA
open Option.some renaming injEq->Z9,inj->aI
open Go.Result renaming andThen->aB,andThen_ok->bN
open Nat renaming le_refl->aC,zero_le->aE,blt->aG,lt_or_ge->aL,le_of_ble_eq_true->aU,le_trans->bE,eq_of_beq_eq_true->bF,ble->bK,beq->bM
open Go.Sem renaming run_bind->aF,run_pure->aO
open Go renaming Calls->aM
open Go.Region renaming ready->aP,binds->bO
open Go.IntWalk renaming i64_in->aQ
open Go.Value.slice renaming injEq->aS
open Go.DataW renaming trod->aV
open List.cons renaming injEq->aX
open Array renaming getElem?_eq_none->aY
open Prod.mk renaming injEq->bC
open Go.Value renaming ownBlock->bH,slice->bI
open Go.Addr renaming add->bJ
open Go.Addr.mk renaming injEq->bX
open Bk.Ext renaming refl->cB
open Bk.PG.sits renaming ext->cG,fr->dL
open Bk.EX.sits renaming ext->cK
open Bk.Nd renaming kind->cO,sits->cP,kids->cV,name->cX,num->dB,val->dC,isStmt->dN,isExpr->dP
open Bk.Row renaming fr->dE,ext->dF,at0->dM
open Bk.Le renaming refl->dG
open Bk.Arr renaming get->dI
namespace Bk
open Go Go.RowKit Go.Proofs
def ZU:BT 69:=⟨by kernel_rfl,Au⟩
def U8 (w:wD) (k:Nat):Prop:= ∃c fz,w.heap[k]? = some (.cells c 5 fz)
structure BdF (w:wD) (b:Nat) (l:lB) (H:Nat):Prop where
 is:Lib.IsBuilderF 69 5 b b (Lib.byteCells l) w
 own : ∀p v,w.heap[b]? = some (.cells #[p,v] 69 (0,0)) -> ∀g,v.ownBlock=some g->g<H
 lt:b<w.heap.size
def KN {w:wD} {b:Nat} {o:Obj} (h:w.heap[b]? = some o):b<w.heap.size:=by
 rcases aL b w.heap.size with f|f
 . exact f
 . rw [aY f] at h;cases h
def BdF.fr {w w':wD} {b:Nat} {l:lB} {H:Nat} {S:nP} (h:BdF w b l H) (x:Fr S w w') (L : ∀k,S k->k≠b/\H<=k):BdF w' b l H:=by
 have f:w'.heap[b]? = w.heap[b]? := x.block b h.lt (fun E=>(L b E).1 rfl);have key : ∀p,Lib.BuilderAtF 69 5 b b p (Lib.byteCells l) w->Lib.BuilderAtF 69 5 b b p (Lib.byteCells l) w':=by
  rintro p ⟨h1,v,M,U,V⟩;refine ⟨h1,v,by rw [f];exact M,?_,V⟩;obtain ⟨N,X|⟨g,cap,F,Y,rfl,Z,O,k5⟩⟩:=U
  . exact ⟨N,Z6 X⟩
  . have hg:=h.own p _ M g rfl;exact ⟨N,aA ⟨g,cap,F,Y,rfl,Z,by rw [x.block g (KN O) (fun E=>by have:=(L g E).2;omega)];exact O,k5⟩⟩
 refine ⟨h.is.imp (key _) (key _),fun p v hv=>h.own p v (by rw [<-f];exact hv),Nat.lt_of_lt_of_le h.lt x.size⟩
instance {w w':wD} {b:Nat} {l:lB} {H:Nat} {S:nP}:LfF S w w' (BdF w b l H) (∀k,S k->k≠b/\H<=k) (BdF w' b l H):=⟨fun x s h=>Bk.BdF.fr h x s⟩
def BdF.ext {w w':wD} {b:Nat} {l:lB} {H:Nat} (h:BdF w b l H) (x:Ext w w'):BdF w' b l H:=h.fr (S:=fun _=>False) (Fr.of_ext x) (fun _ h=>h.elim)
instance {w w':wD} {b:Nat} {l:lB} {H:Nat}:LfE w w' (BdF w b l H) (BdF w' b l H):=⟨fun x h=>Bk.BdF.ext h x⟩
def Vn {w:wD} {b:Nat} {l:lB} (h:Lib.IsBuilderF 69 5 b b (Lib.byteCells l) w):BdF w b l w.heap.size:=by
 refine ⟨h,fun p v F g E=>?_,?_⟩
 . have key : ∀q,Lib.BuilderAtF 69 5 b b q (Lib.byteCells l) w->g<w.heap.size:=by
    rintro q ⟨-,O,f,L,-⟩;rw [F] at f;simp only [Z9,Obj.cells.injEq,Array.mk.injEq,aX,and_true] at f;obtain ⟨rfl,rfl⟩:=f;obtain ⟨-,⟨rfl,-⟩|⟨U,cap,M,V,rfl,-,N,-⟩⟩:=L
    . cases E
    . simp only [bH,Z9] at E;subst E;exact KN N
   exact h.elim (key _) (key _)
 . exact h.elim (fun ⟨_,_,f,_⟩=>KN f) (fun ⟨_,_,f,_⟩=>KN f)
def Ya {w w':wD} {b:Nat} (h:Below b w w') (N:Lib.OthersKept 5 (some b) w w'):Fr (fun k=>k=b\/(b<=k/\U8 w k)) w w':=by
 refine ⟨h.os,h.tape,h.output,h.size,fun k O M=>?_⟩;by_cases f:k<b
 . exact h.block k f
 . have E:k≠b:=fun e=>M (Z6 e)
   have F : ¬U8 w k:=fun e=>M (aA ⟨Aa,e⟩)
   have L:w.heap[k]? = some w.heap[k]:=Array.getElem?_eq_getElem O;rw [L];exact N k _ L (by simpa using E) (fun c U e=>F ⟨c,U,by rw [L,e]⟩)
def L0 (s:lB):Lib.strCells ⟨s.toArray⟩=Lib.byteCells s:=rfl
def Qf (b:Nat) (l s:lB) (H:Nat) (w:wD) (h:BdF w b l H) (f:l.length+s.length<=140737488355328) :
 Calls prog 31 #[.pointer (some ⟨b,0,none⟩),str s] w fun e w'=>e = .returned (.tuple #[.int .i64 s.length,.nilIface])/\BdF w' b (l++s) w'.heap.size/\Fr (fun k=>k=b\/(b<=k/\U8 w k)) w w':=
 (Is 69 ZU b b (Lib.byteCells l) ⟨s.toArray⟩ w h.is (by rw [Lib.byteCells_length];exact f) (Nat.le_of_lt h.lt)).mono fun e w' ⟨h1,h2,h3⟩=>
  ⟨h1,Vn (by rw [L0] at h2;simpa [Lib.byteCells] using h2),Ya h3.below h3.kept⟩
def TA (b:Nat) (l:lB) (H:Nat) (w:wD) (h:BdF w b l H) :
 Calls prog 35 #[.pointer (some ⟨b,0,none⟩)] w fun e w'=>e = .returned (str l)/\Fr (fun k=>k=b\/(b<=k/\U8 w k)) w w':=
 (LS 69 b b l w h.is (Nat.le_of_lt h.lt)).mono fun e w' ⟨h1,h2,h3⟩=>⟨h1,Ya h3.below h3.kept⟩
def Sj {w:wD} {k:Nat} {vs:lV} {T:TypeId} (h:TB w k vs T) (f:T≠5) : ¬U8 w k:=by
 rintro ⟨c,E,e⟩;rw [TB] at h;rw [h] at e;simp only [Z9,Obj.cells.injEq] at e;exact f e.2.1
def EX.text (e:EX):lB:=LO e (Lib.countByte e.g.text 10:Nat)++e.g.text
def EF (l:List EX):lB:=l.flatMap EX.text
def L1 (l:List EX):Prop:= ∃i,i<l.length /\ ∃e,l[i]? = some e/\Gn (l.take i) e.name=true
open Classical in
noncomputable def EC (l:List EX):lB×Int:=
 if 100<l.length then ([],5) else if ¬ ∀e∈l,e.valid then ([],3) else if L1 l then ([],22) else if 65536<(EF l).length then ([],5) else (EF l,0)
def Qg {l:List EX} (h:100<l.length):EC l=([],5):=by unfold EC;rw [AX h]
def Rk {l:List EX} (h : ¬ 100<l.length) (e:EX) (f:e∈l) (E : ¬e.valid):EC l=([],3):=by
 unfold EC;rw [AC h,AX (fun h=>E (h e f))]
def Rl {l:List EX} (h : ¬ 100<l.length) (f : ∀e∈l,e.valid) (E:L1 l):EC l=([],22):=by
 unfold EC;rw [AC h,AC (fun h=>h f),AX E]
def Og {l:List EX} (h : ¬ 100<l.length) (f : ∀e∈l,e.valid) (E : ¬L1 l) (F:65536<(EF l).length):EC l=([],5):=by
 unfold EC;rw [AC h,AC (fun h=>h f),AC E,AX F]
def JT {l:List EX} (h : ¬ 100<l.length) (f : ∀e∈l,e.valid) (E : ¬L1 l) (F : ¬ 65536<(EF l).length):EC l=(EF l,0):=by
 unfold EC;rw [AC h,AC (fun h=>h f),AC E,AC F]
def Rm {vs:List VD} {b:BoxV} (h:(FY vs b).2=0):b.ok:=by
 unfold FY at h;split at h
 . rename_i h1;exact h1.1
 . cases h
def EX.valid_rng {e:EX} (h:e.valid):e.rng:=by
 obtain ⟨⟨-,h1,F⟩,-,-,f,-⟩:=h;have E:=Rm f;unfold BoxV.ok at E;exact ⟨Aa,Aa,Aa,Aa,Aa⟩
def EX.valid_name {e:EX} (h:e.valid):e.name.length<=16:=CJ h.1.1
def TC (e:EX) (n:Int) (h:e.rng) (E:0<=n/\n<=9223372036854775807):(LO e n).length<=e.name.length+1000:=by
 have h1:=JQ (E2 e n) (fun p f=>⟨LP e n p f,JP e n h E p f⟩);have F:=LQ (E2 e n);rw [M6] at h1 F;unfold LO Ir;generalize (E2 e n).flatMap (fun p=>[p.1,Lib.itoa p.2])=r at *;rw [ZZ,bU,Lib.join_length];unfold Lib.lens at h1 ⊢;simp only [bU,List.nil_append,Z1,Z4,bZ,List.sum_cons];omega
def L2 (s:lB):Lib.countByte s 10<=s.length:=by
 unfold Lib.countByte
 first|exact List.countP_le_length|exact List.count_le_length|simpa using List.countP_le_length
def EX.text_le {e:EX} (f:e.wf) (h:e.valid):e.text.length<=1000000002000:=by
 have h1:=PG.text_len e.g f.g h.2.1.1;have E:=L2 e.g.text;have F:=TC e (Lib.countByte e.g.text 10:Nat) (EX.valid_rng h) ⟨Aa,Aa⟩;have L:=EX.valid_name h;unfold EX.text;rw [ZZ];omega
def TD {l:List EX} {j:Nat} (h:j<l.length):EF (l.take (j+1))=EF (l.take j)++l[j].text:=by
 unfold EF;rw [aD h,List.flatMap_append];simp
def Xs {l:List EX} {j:Nat}:(EF (l.take j)).length<=(EF l).length:=by
 conv=>rhs;rw [<-aZ j l]
 unfold EF;rw [List.flatMap_append,ZZ];omega
def Vo (b:Nat) (l:lB) (H:Nat) (w:wD) (h:BdF w b l H) :
 Calls prog 34 #[.pointer (some ⟨b,0,none⟩)] w fun e w'=>e = .returned (.int .i64 l.length)/\w'=w:=
 (Tryz.Builder_Len_f b b (Lib.byteCells l) w h.is).mono fun e w' ⟨h1,h2⟩=>⟨by rw [h1,Lib.byteCells_length],h2⟩
attribute [local irreducible] Go.Calls
def Xt {w:wD} {b:Nat} (h:TB w b [.pointer none,.slice none 0 0] 69):BdF w b [] w.heap.size:=by
 refine Vn (Z6 ⟨aC _,.slice none 0 0,h,⟨by simp [Lib.byteCells],Z6 ⟨rfl,rfl⟩⟩,by simp [bH]⟩)
set_option maxHeartbeats 8000000 in
def Na (l:List EX) (hw : ∀e∈l,e.wf) (S:nP) (a:oA) (c:Nat) (hl:l.length<=1000000) (hc:l.length<=c) (w:wD) (f:EXs S w l a) (E:TabsF w) :
 Calls prog 15 #[.slice a l.length c] w fun r w'=>r = .returned (.tuple #[str (EC l).1,.int .i64 (EC l).2])/\Ext w w':=by
 have X:=cB w;have f:=f.ltA;have c6:=E.g;have HW:=Z2 hw;clear hw;by_cases ad:100<l.length
 . rw [Qg ad];refine Ad func15 ntmps15 rfl rfl ?_;refine eK ?_;refine xT ?_;all_goals exact ⟨rfl,X⟩
 have c7:l.length<=100:=by omega
 have HB:=Z2 (fun e he O=>Rk ad e he O);have HD:=Z2 (fun O hd=>Rl ad O hd);have HG:=Z2 (fun O hd hc=>Og ad O hd hc);have HO:=Z2 (fun O hd hc=>JT ad O hd hc);refine Ad func15 ntmps15 rfl rfl ?_;refine cS (C1 Pa (C1 Pa (cT (Ah (cS (C1 Mv (C1 Pz (C1 V5 (cT (F5 (Am ?_)))))))))));refine Ae (Ah (cS (C1 Mv (C1 Pz (C1 Mv (cT ?_))))));refine At ?_;refine AK (ι:=Nat) (fun j=>[(0,.slice a l.length c),(16,.slice a l.length c),(17,.int .i64 l.length),(18,.int .i64 j)])
  (fun j w'=>j<=l.length/\(∀e∈l.take j,e.valid)/\EXs (· < w.heap.size) w' l a/\TabsF w'/\Ext w w') (fun j=>l.length-j) 0 sB ⟨aE _,(fun e he=>by simp at he),f,E,X⟩ ?_
 clear f E X;rintro j w1 ⟨hj,hq,f,E,X⟩;have hz:=X.size;have HQ:=Z2 hq;clear hq;by_cases aa:j<l.length
 . obtain ⟨kb,ko,rfl,-,hk⟩:=dI f Aa;obtain ⟨va,vc,pa,pc,ma,mc,N,L⟩:=hk j _ (Z0 aa);have hm:=Z8 aa;have ag:=HW.out _ hm;have hn:l[j].valid -> ∀e∈l.take (j+1),e.valid:=fun h e he=>by
    rw [aD aa,List.mem_append,bW] at he;rcases he with he|rfl
    . exact HQ.out e he
    . exact h
   have F:=HB.out l[j] hm;clear hk hm;generalize l[j]=e at *;have HV:=Z2 (fun w1 h=>EN e ag (· < w.heap.size) va vc pa pc ma mc w1 h);clear ag;by_cases O:e.valid
   . rw [decide_eq_true O] at HV;have HN:=Z2 (hn O);clear hn O F;unfold EX.cells at N HV;refine eK ?_;refine xA [_,_,_,_,_,_,_,_,_,_,_,_] ?_;intro c8 c9 bt;refine eI [_,_,_,_,_,_,_,_,_,_,_,_] bt ?_;intro da a6 bu db dc;revert E X f N L;refine eE bu ?_;intro E X f N L;refine cN (AJ [_,_,_,_,_,_,_,_,_,_,_,_] Ac rfl rfl rfl a6 rfl rfl rfl (cC rfl (HV.out _ Ag) ?_));rintro _ cb ⟨⟨⟩,bv⟩;revert a6 E X f N L;refine eY bv ?_;intro cc a6 E X f N L;refine C1 Pt (cT (AR rfl (Am (Af (Ae (Aj (C1 V7 (C1 Mv (Ai ?_)))))))));exact Ay (j+1) sB ⟨Aa,HN.out,Ag,Ag,X⟩ Aa
   . rw [decide_eq_false O] at HV;rw [F O];clear hn O F;unfold EX.cells at N HV;refine eK ?_;refine xA [_,_,_,_,_,_,_,_,_,_,_,_] ?_;intro dd de bw;refine eI [_,_,_,_,_,_,_,_,_,_,_,_] bw ?_;intro df a7 bx dg dh;revert E X f N L;refine eE bx ?_;intro E X f N L;refine cN (AJ [_,_,_,_,_,_,_,_,_,_,_,_] Ac rfl rfl rfl a7 rfl rfl rfl (cC rfl (HV.out _ Ag) ?_));rintro _ cd ⟨⟨⟩,bz⟩;revert a7 E X f N L;refine eY bz ?_;intro ce a7 E X f N L;refine eK ?_;refine xT ?_;exact ⟨rfl,X⟩
 obtain rfl:j=l.length:=by omega
 have ax : ∀e∈l,e.valid:=by have:=HQ.out;rwa [aH] at this
 clear HQ HB;have HA:=Z2 ax;clear ax;refine cS (C1 V3 (cT (Ah (F5 (C3 (AG (AG (Bd (Ae (Ah (cS ?_)))))))))));refine C1 Mv (C1 Pz (C1 Mv (cT ?_)));refine At ?_;refine AK (ι:=Nat) (fun j=>[(0,.slice a l.length c),(26,.slice a l.length c),(27,.int .i64 l.length),(28,.int .i64 j)])
  (fun j w'=>j<=l.length/\(∀i,i<j -> ∀e,l[i]? = some e->Gn (l.take i) e.name=false)/\EXs (· < w.heap.size) w' l a/\TabsF w'/\Ext w w') (fun j=>l.length-j) 0 sB ⟨aE _,(fun i h=>absurd h Aa),f,E,X⟩ ?_
 clear f E X;rintro j w2 ⟨hj,hq,f,E,X⟩;have di:=X.size;have HQ:=Z2 hq;clear hq;by_cases aa:j<l.length
 . obtain ⟨kb,ko,rfl,-,hk⟩:=dI f Aa;obtain ⟨va,vc,pa,pc,ma,mc,N,L⟩:=hk j _ (Z0 aa);have HH:Hid (∀s w1,EXs (· < w.heap.size) w1 l (some ⟨kb,ko,none⟩)->Calls prog 29 #[.slice (some ⟨kb,ko,none⟩) j c,str s] w1 fun r w'=>r = .returned (.bool (Gn (l.take j) s))/\Ext w1 w'):=Z2 fun s w1 h=>by
    have:=X0 (l.take j) (by rw [bB];omega) s _ _ c w1 (h.take j);rwa [bB,Nat.min_eq_left hj] at this
   have hn:Gn (l.take j) l[j].name=false -> ∀i,i<j+1 -> ∀e,l[i]? = some e->Gn (l.take i) e.name=false:=fun h i hi e he=>by
    rcases aL i j with h1|h1
    . exact HQ.out i h1 e he
    . obtain rfl:i=j:=by omega
      rw [Z0 aa] at he;rw [<-aI he];exact h
   have hd:Gn (l.take j) l[j].name=true->L1 l:=fun h=>⟨j,aa,_,Z0 aa,h⟩
   clear hk;generalize l[j]=e at *;unfold EX.cells at N;cases O:Gn (l.take j) e.name
   . have HN:=Z2 (hn O);have HH:=Z2 (HH.out e.name);rw [O] at HH;clear hn O hd;generalize e.name=t at *;refine eK ?_;refine eA [_,_,_,_,_,_,_,_,_,_,_,_] ?_;intro dk dl b0 b1 dm dn;revert E X f L N;refine eE b1 ?_;intro E X f L N;refine C1 Pa (eS [_,_,_,_,_,_,_,_,_,_,_,_] b0 ?_);intro be ae ay cf;revert E X f L;refine eF ay ?_;intro E X f L;clear N ay;refine eK ?_;refine AD (fun wz=>Ext be wz) 5 (.pure 0 (.pure 1 (.pure 2 (.pure 3 (.pure 4 .tail))))) mixed Bo (Ab (Al (Ab (Ab (Al (Ab An)))))) ?_;intro bf az _;have ah:(fun wz=>Ext be wz) bf:=az;simp only at ah;have aq:=ae;have ai:=E;have aj:=f;have ak:=L;revert ae E X f L;refine eY az ?_;intro cg ae E X f L;refine ⟨ah,?_⟩;refine Tq rfl Mv (Tq rfl Mv (Tq rfl (H7 Ac rfl rfl rfl rfl rfl Aa) (Tq rfl Pg (Tq rfl (Db aq) ?_))));refine AE rfl (cC rfl (HH.out _ Ag) ?_);rintro _ ch ⟨⟨⟩,bg⟩;revert ae E X f L;refine eY bg ?_;intro ci ae E X f L;refine cT (AR rfl (Am (Af (Ae (Aj (C1 V7 (C1 Mv (Ai ?_))))))));exact Ay (j+1) sB ⟨Aa,HN.out,Ag,Ag,X⟩ Aa
   . rw [HD.out HA.out (hd O)];have HH:=Z2 (HH.out e.name);rw [O] at HH;clear hn O hd;generalize e.name=t at *;refine eK ?_;refine eA [_,_,_,_,_,_,_,_,_,_,_,_] ?_;intro dp dq b2 b3 dr ds;revert E X f L N;refine eE b3 ?_;intro E X f L N;refine C1 Pa (eS [_,_,_,_,_,_,_,_,_,_,_,_] b2 ?_);intro bh af a0 cj;revert E X f L;refine eF a0 ?_;intro E X f L;clear N a0;refine eK ?_;refine AD (fun wz=>Ext bh wz) 5 (.pure 0 (.pure 1 (.pure 2 (.pure 3 (.pure 4 .tail))))) mixed Bo (Ab (Al (Ab (Ab (Al (Ab An)))))) ?_;intro bi a1 _;have al:(fun wz=>Ext bh wz) bi:=a1;simp only at al;have ar:=af;have ai:=E;have aj:=f;have ak:=L;revert af E X f L;refine eY a1 ?_;intro ck af E X f L;refine ⟨al,?_⟩;refine Tq rfl Mv (Tq rfl Mv (Tq rfl (H7 Ac rfl rfl rfl rfl rfl Aa) (Tq rfl Pg (Tq rfl (Db ar) ?_))));refine AE rfl (cC rfl (HH.out _ Ag) ?_);rintro _ cl ⟨⟨⟩,bj⟩;revert af E X f L;refine eY bj ?_;intro cm af E X f L;refine eK ?_;refine xT ?_;exact ⟨rfl,X⟩
 obtain rfl:j=l.length:=by omega
 have bk : ¬L1 l:=fun ⟨i,hi,e,he,h⟩=>by rw [HQ.out i hi e he] at h;cases h
 clear HQ HD;have HN:=Z2 bk;clear bk;refine eK ?_;refine Fi Ci rfl rfl ?_;intro au b4 a8 b5;have b6:=a8.ext;have dt:=a8.pos;have du:=a8.size;revert f E X;refine eE b6 ?_;intro f E X;refine cT (Ah (cS (C1 Mv (C1 Pz (C1 Mv (cT ?_))))));have F:=Xt b5;refine At ?_;refine AK (ι:=Nat×Nat) (fun y=>[(8,.pointer (some ⟨au,0,none⟩)),(40,.slice a l.length c),(41,.int .i64 l.length),(42,.int .i64 y.1)])
  (fun y w'=>y.1<=l.length/\BdF w' au (EF (l.take y.1)) y.2/\y.2<=w'.heap.size/\(EF (l.take y.1)).length<=65536/\EXs (· < w.heap.size) w' l a/\TabsF w'/\Ext w w'/\au<w'.heap.size) (fun y=>l.length-y.1) (0,b4.heap.size) sB ⟨aE _,F,aC _,by simp [EF],f,E,X,Aa⟩ ?_
 clear F f E X;rintro ⟨j,H⟩ w3 ⟨hj,F,hH,bl,f,E,X,dv⟩;simp only at hj F hH bl;have dw:=X.size;have dx:=E.g;refine CW.sub (m:=[(8,.pointer (some ⟨au,0,none⟩)),(40,.slice a l.length c),(41,.int .i64 l.length),(42,.int .i64 j)]) ?_ sB;by_cases aa:j<l.length
 . obtain ⟨kb,ko,rfl,-,hk⟩:=dI f Aa;obtain ⟨va,vc,pa,pc,ma,mc,N,L⟩:=hk j _ (Z0 aa);have hm:=Z8 aa;have O:=HA.out _ hm;have ag:=HW.out _ hm;have am:=TD aa;have av:(EF (l.take (j+1))).length<=(EF l).length:=Xs;clear hk hm;generalize l[j]=e at *;have bm:=EX.text_le ag O;have HP:=Z2 (fun (w1:wD) (h1:TabsF w1) h2=>M9 e.g (· < w.heap.size) va vc pa pc ma mc w1 ag.g h1.t h1.g h2);have aw:e.g.ok=true:=O.2.1.1;rw [AX aw,AX aw] at HP;have dy:=L2 e.g.text;have dz:=PG.text_len e.g ag.g aw;have M:=L.g;have HH:=Z2 (fun w1 h=>Vc e (Lib.countByte e.g.text 10:Nat) (EX.valid_rng O) ⟨Aa,Aa⟩ (by have:=EX.valid_name O;omega) va vc pa pc ma mc w1 h);rw [am] at av;unfold EX.text at av bm am;clear aw O ag;generalize LO e (Lib.countByte e.g.text 10:Nat)=hd at *;generalize EF (l.take j)=a9 at *;unfold EX.cells at N HH;generalize e.g.text=tx at *;have d0:hd.length+tx.length<=1000000002000:=by rw [<-ZZ];exact bm
   have bn:a9.length+(hd++tx).length<=140737488355328:=by omega
   by_cases d1:65536<(a9++(hd++tx)).length
   . rw [HG.out HA.out HN.out Aa];clear av am HG HO;refine eK ?_;refine Fi Ci rfl rfl ?_;intro d2 d3 an ab;refine IM Ac rfl rfl rfl rfl rfl rfl an ab rfl ?_;intro d4 an ab;have b7:=an.ext;have d5:=an.pos;have d6:=an.size;revert E X f N L M F;refine eE b7 ?_;intro E X f N L M F;refine eK ?_;refine AJ [_,_,_,_,_,_] Ac rfl rfl rfl (TB.blk ab) rfl rfl rfl (cC rfl (HP.out _ Ag Ag) ?_);rintro _ a2 ⟨⟨⟩,b8⟩;revert ab E X f N L M F;refine eY b8 ?_;intro cn ab E X f N L M F;refine eK ?_;refine AD (fun wz=>Ext a2 wz) 5 (.pure 0 (.pure 1 (.pure 4 (.fork 2 (.fork 3 .tail .none) .none)))) mixed Bo (Ab (Al (Ab (Ab (Al (Ab An)))))) ?_;intro bo a3 _;have U:(fun wz=>Ext a2 wz) bo:=a3;simp only at U;have ba:=ab;have ai:=E;have aj:=f;have bp:=N;have ak:=L;have bb:=M;have bc:=F;revert ab E X f N L M F;refine eY a3 ?_;intro co ab E X f N L M F;refine ⟨U,?_⟩;refine Tq rfl (xL [_,_,_,_,_,_,_,_,_,_,_,_] (fun wz hz=>(Blk.ext (TB.blk ba) hz))) (Tq rfl Mv (Tq rfl Mv ?_));refine tC rfl rfl (JR _ _) ?_;rintro _ cp ⟨⟨⟩,rfl⟩;refine ⟨U,?_⟩;refine tC rfl rfl (HH.out _ Ag) ?_;rintro _ cq ⟨⟨⟩,bq⟩;revert U ab E X f N L M F;refine eY bq ?_;intro cr U ab E X f N L M F;refine ⟨U,?_⟩;refine AE rfl (C1 (KP rfl rfl Aa) (cC rfl (Qf _ _ _ _ _ Ag bn) ?_));rintro _ ct ⟨⟨⟩,⟨cu,Y⟩⟩;have cv:=Y.size;have ab:=TB.fr ab Y (fun e=>e.elim (fun e=>by omega) (fun e=>Sj Ag Au e.2));have E:=TabsF.fr E Y (fun k hk=>hk.elim (fun e=>by omega) (fun e=>by have:=e.1;omega));have X:=Ext.fr X Y (fun k hk=>hk.elim (fun e=>by omega) (fun e=>by have:=e.1;omega));have f:=EXs.fr f Y (fun b hb hT=>hT.elim (fun e=>by (try dsimp only at hb);omega) (fun e=>by have:=e.1;(try dsimp only at hb);omega));clear N;have L:=EX.sits.fr L Y (fun b hb hT=>hT.elim (fun e=>by (try dsimp only at hb);omega) (fun e=>by have:=e.1;(try dsimp only at hb);omega));have M:=dL M Y (fun b hb hT=>hT.elim (fun e=>by (try dsimp only at hb);omega) (fun e=>by have:=e.1;(try dsimp only at hb);omega));clear F Y;refine cN (cC rfl (Vo _ _ _ _ Ag) ?_);rintro _ cw ⟨⟨⟩,rfl⟩;refine eK ?_
     refine xT ?_;exact ⟨rfl,X⟩
   . clear av HG HO
     focus
      refine eK ?_;refine Fi Ci rfl rfl ?_;intro d7 d8 ao ac;refine IM Ac rfl rfl rfl rfl rfl rfl ao ac rfl ?_;intro d9 ao ac;have b9:=ao.ext;have ea:=ao.pos;have eb:=ao.size;revert E X f N L M F;refine eE b9 ?_;intro E X f N L M F;refine eK ?_;refine AJ [_,_,_,_,_,_] Ac rfl rfl rfl (TB.blk ac) rfl rfl rfl (cC rfl (HP.out _ Ag Ag) ?_);rintro _ a4 ⟨⟨⟩,ca⟩;revert ac E X f N L M F;refine eY ca ?_;intro cx ac E X f N L M F;refine eK ?_;refine AD (fun wz=>Ext a4 wz) 5 (.pure 0 (.pure 1 (.pure 4 (.fork 2 (.fork 3 .tail .none) .none)))) mixed Bo (Ab (Al (Ab (Ab (Al (Ab An)))))) ?_;intro br a5 _;have V:(fun wz=>Ext a4 wz) br:=a5;simp only at V;have bd:=ac;have ai:=E;have aj:=f;have bp:=N;have ak:=L;have bb:=M;have bc:=F;revert ac E X f N L M F;refine eY a5 ?_;intro cy ac E X f N L M F;refine ⟨V,?_⟩;refine Tq rfl (xL [_,_,_,_,_,_,_,_,_,_,_,_] (fun wz hz=>(Blk.ext (TB.blk bd) hz))) (Tq rfl Mv (Tq rfl Mv ?_));refine tC rfl rfl (JR _ _) ?_;rintro _ cz ⟨⟨⟩,rfl⟩;refine ⟨V,?_⟩;refine tC rfl rfl (HH.out _ Ag) ?_;rintro _ c0 ⟨⟨⟩,bs⟩;revert V ac E X f N L M F;refine eY bs ?_;intro c1 V ac E X f N L M F;refine ⟨V,?_⟩;refine AE rfl (C1 (KP rfl rfl Aa) (cC rfl (Qf _ _ _ _ _ Ag bn) ?_));rintro _ c2 ⟨⟨⟩,⟨c3,Z⟩⟩;have c4:=Z.size;have ac:=TB.fr ac Z (fun e=>e.elim (fun e=>by omega) (fun e=>Sj Ag Au e.2));have E:=TabsF.fr E Z (fun k hk=>hk.elim (fun e=>by omega) (fun e=>by have:=e.1;omega));have X:=Ext.fr X Z (fun k hk=>hk.elim (fun e=>by omega) (fun e=>by have:=e.1;omega));have f:=EXs.fr f Z (fun b hb hT=>hT.elim (fun e=>by (try dsimp only at hb);omega) (fun e=>by have:=e.1;(try dsimp only at hb);omega));clear N;have L:=EX.sits.fr L Z (fun b hb hT=>hT.elim (fun e=>by (try dsimp only at hb);omega) (fun e=>by have:=e.1;(try dsimp only at hb);omega));have M:=dL M Z (fun b hb hT=>hT.elim (fun e=>by (try dsimp only at hb);omega) (fun e=>by have:=e.1;(try dsimp only at hb);omega));clear F Z;refine cN (cC rfl (Vo _ _ _ _ Ag) ?_);rintro _ c5 ⟨⟨⟩,rfl⟩;refine C1 V5 (cT (F5 (Am (Af (Ae (Aj (C1 V7 (C1 Mv (Ai ?_)))))))))
      rotate_left
     exact Ay (j+1,_) sB ⟨by (try dsimp only);omega,by dsimp only;rw [am];assumption,aC _,by dsimp only;rw [am];omega,Ag,Ag,X,Aa⟩ (by (try dsimp only);omega)
 obtain rfl:j=l.length:=by omega
 rw [aH] at F bl;rw [HO.out HA.out HN.out Aa];clear HO HG HA HN;generalize EF l=a9 at *;refine eK ?_;refine cC rfl (TA _ _ _ _ Ag) ?_;rintro _ ec ⟨⟨⟩,ap⟩;have ed:=ap.size;have f:=f.fr ap Aa;have E:=TabsF.fr E ap (fun k hk=>hk.elim (fun e=>by omega) (fun e=>by have:=e.1;omega));have X:=Ext.fr X ap (fun k hk=>hk.elim (fun e=>by omega) (fun e=>by have:=e.1;omega));clear F ap;refine eK ?_;refine xT ?_;exact ⟨rfl,X⟩
end Bk
namespace Bk
open Go Go.RowKit Go.Proofs
def BG (s:lB):List lB:=Lib.split s [32]
def Nb (f:lB) : ∀(k:Nat) (s x:lB),x∈Lib.splitK f 0 k s->x.length<=s.length
 | 0,s,x,h=>by simp only [Lib.splitK,bW] at h;subst h;exact aC _
 | k+1,s,x,h=>by
  rw [Lib.splitK] at h;split at h
  . simp only [bW] at h;subst h;exact aC _
  . rcases aK.1 h with h|h
    . rw [h,bB];omega
    . have:=Nb f k _ x h;rw [List.length_drop] at this;omega
def Vp {s x:lB} (h:x∈BG s):x.length<=s.length:=Nb _ _ s x h
def SplitR (s:lB) (w:wD):Ending->wD->Prop:=fun e w'=> ∃b,e = .returned (.slice (some ⟨b,0,none⟩) (BG s).length (BG s).length)/\Blk w' b ((BG s).map str)/\w.heap.size<=b/\b<w'.heap.size/\Ext w w'
def SplitR.ret {s:lB} {w w':wD} {e:Ending} (h:SplitR s w e w') : ∃v,e = .returned v:=by
 obtain ⟨_,h,-⟩:=h;exact ⟨_,h⟩
def Xu (s:lB) (N:s.length<=1000000) (w:wD) (h:Errs2 w):Calls prog 110 #[str s,str [32]] w (SplitR s w):=by
 obtain ⟨-,-,m,F⟩:=h;refine (Tryz.strings_Split ⟨s.toArray⟩ ⟨#[32]⟩ m w (by rw [EQ];omega) F Au).mono ?_;rintro e w' ⟨rfl,rfl⟩;have L:(BG s).length=Lib.countB ⟨s.toArray⟩ ⟨#[32]⟩+1:=by
  have h1:=Lib.splitB_all ⟨#[32]⟩ Au 0 _ ⟨s.toArray⟩ rfl;have f:=congrArg List.length (Lib.splitB_data ⟨#[32]⟩ 0 (Lib.countB ⟨s.toArray⟩ ⟨#[32]⟩) ⟨s.toArray⟩);rw [List.length_map,h1] at f;exact f.symm
 have M:(Lib.splitB ⟨#[32]⟩ 0 (Lib.countB ⟨s.toArray⟩ ⟨#[32]⟩) ⟨s.toArray⟩).map Value.string=(BG s).map str:=by
  have f:=Lib.splitB_data ⟨#[32]⟩ 0 (Lib.countB ⟨s.toArray⟩ ⟨#[32]⟩) ⟨s.toArray⟩;have E:=congrArg (List.map str) f;rw [List.map_map] at E;exact E
 refine ⟨w.heap.size,by rw [L],⟨9,?_⟩,aC _,?_,(cB w).alloc _⟩
 . rw [<-M];simp only [World.alloc,Array.getElem?_push_size]
 . show w.heap.size<(w.heap.push _).size;rw [Array.size_push];omega
def CK (s:lB):lB×lB×Bool:=Lib.cut s [10]
def Zd (s:lB) (E:s.length<=1000000) (w:wD) (h:Errs2 w):Calls prog 69 #[str s,str [10]] w fun e w'=>e = .returned (.tuple #[str (CK s).1,str (CK s).2.1,.bool (CK s).2.2])/\Ext w w':=by
 obtain ⟨-,-,m,f⟩:=h;refine (Tryz.strings_Cut ⟨s.toArray⟩ ⟨#[10]⟩ m w (by rw [EQ];omega) f).mono ?_;rintro e w' ⟨rfl,n,rfl⟩;exact ⟨rfl,SY w n⟩
def hwords:List lB:=[[112,111,105,110,116,115],[102,117,101,108],[118,97,108,117,101],[108,101,110,103,116,104],[105,110,112,117,116],[108,105,110,101,115]]
def CM (ws:List lB) (i:Nat):Int:=(D0 (ws.getD (3+2*i) [])).1
def Qh (ws:List lB) (i:Nat):Prop:=ws.getD (2+2*i) []=hwords.getD i []/\(D0 (ws.getD (3+2*i) [])).2=true
instance (ws:List lB) (i:Nat):Decidable (Qh ws i):=by unfold Qh;infer_instance
def Nc (ws:List lB):Prop:=ws.length=14/\ws.getD 0 []=[101,120,101,114,99,105,115,101]/\Bc (ws.getD 1 [])=true /\ ∀i,i<6->Qh ws i
instance (ws:List lB):Decidable (Nc ws):=by unfold Nc;infer_instance
def Nf (ws:List lB) (j:Nat):EX:=⟨ws.getD 1 [],if 0<j then CM ws 0 else 0,if 1<j then CM ws 1 else 0,⟨if 2<j then CM ws 2 else 0,if 3<j then CM ws 3 else 0,if 4<j then CM ws 4 else 0⟩,zeroPG⟩
def Yb (ws:List lB):EX:=Nf ws 6
def zeroEX:EX:=⟨[],0,0,⟨0,0,0⟩,zeroPG⟩
def EX.cells0 (e:EX):lV:=e.cells none 0 none 0 none 0
def Qi (ws:List lB):Value:=if Nc ws then .tuple #[.agg (Yb ws).cells0.toArray,.int .i64 (CM ws 5),.bool true] else .tuple #[.agg zeroEX.cells0.toArray,.int .i64 0,.bool false]
def TE (f:List lB) (j:Nat) (h:j<5):(Nf f j).cells0.set (1+j) (.int .i64 (CM f j))=(Nf f (j+1)).cells0:=by
 rcases (show j=0\/j=1\/j=2\/j=3\/j=4 by omega) with rfl|rfl|rfl|rfl|rfl<;>rfl
def Oh (s:lB):0<=(D0 s).1/\(D0 s).1<=1000000000:=by
 unfold D0;split
 . split
   . rename_i h;exact h.1
   . simp
 . simp
def TF (f E:Nat) (w:wD) (g:Nat) (F:Blk w g (EO f E)) (j:Nat) (L:j<5):Row w ⟨g,0+j*2,none⟩ [str (hwords.getD j []),.pointer (some ⟨f,1+j,none⟩)]:=by
 have h:=F.row.sub (j*2) 2;rcases (show j=0\/j=1\/j=2\/j=3\/j=4 by omega) with rfl|rfl|rfl|rfl|rfl<;>exact h
def Rn (h f:Nat) (w:wD) (g:Nat) (E:Blk w g (EO h f)):Row w ⟨g,0+5*2,none⟩ [str (hwords.getD 5 []),.pointer (some ⟨f,0,none⟩)]:=E.row.sub (5*2) 2
def Ks {P:Program} {m:Nat} {l:Sl} {tab:Tab} {ty:TypeId} {w:wD} {x y:Operand} {t g i:Nat} {s:Sk} {vs:lV} {u:Int} (TT:TabOk P tab) (ht:AB tab t=some (s,1)) (hx:ev l x=some (.pointer (some ⟨g,i,none⟩))) (hy:ev l y=some (.int .i64 u))
 (hb:Blk w g vs) (hi:i<vs.length) :
 Ct P m l (.store t x y) ty w (NK fun w'=>Blk w' g (vs.set i (.int .i64 u))/\Fr (· = g) w w'/\w'.heap.size=w.heap.size):=by
 have hd:=Gv (P:=P) (n:=m) (l:=l) (ty:=ty) (us:=[.int .i64 u]) TT ht hx hy rfl rfl rfl hb (by rw [Nat.ble_eq];simp;omega);unfold Ct at hd ⊢;intro a dst pos after gd next Q ha hn b;refine hd a dst pos after gd next Q ha (fun v' w' h=>h.elim) (fun w' hP=>b w' ⟨?_,hP.fr,hP.size⟩);have h1:=hP.blk;simpa [A9] using h1
attribute [local irreducible] Go.Calls
def Id {w:wD} {b:Nat} {f:List lB} (h:Blk w b (f.map str)) (i:Nat) (F:i<f.length):Row w ⟨b,i,none⟩ [str (f.getD i [])]:=fun k v E=>by
 match k,E with
 | 0,E=>
  simp only [List.getElem?_cons_zero,Z9] at E;subst E;have:=h.row.at (i:=i) (v:=str (f.getD i [])) (by rw [List.getElem?_map,Z0 F,bT,Z0 F];rfl);simpa [bJ] using this
def Sm {s:lB} (i:Nat):((BG s).getD i []).length<=s.length:=by
 rw [bT];cases h:(BG s)[i]? with
 | none=>simp
 | some x=>exact Vp (List.mem_of_getElem? h)
set_option maxHeartbeats 8000000 in
def Oi (s:List UInt8) (hs:s.length<=1000000) (w:World) (F:Errs2 w) (E:TabsF w) :
 Calls prog 70 #[str s] w fun r w'=>r = .returned (Qi (BG s))/\Ext w w':=by
 have X:=cB w;have c1:=E.g;have HF:=Z2 (fun eb lb w1=>PV eb lb w1);have HS:=Z2 (fun w1 h=>Xu s hs w1 h);have HL:=Z2 (fun i=>Sm (s:=s) i)
 have c2:(BG s).length<=1000002:=by
  have h1:(BG s).length<=Lib.count s [32]+1:=by
   have:=congrArg List.length (Lib.splitB_data ⟨#[32]⟩ 0 (Lib.count s [32]) ⟨s.toArray⟩);have h2:=Lib.splitB_length_le ⟨#[32]⟩ 0 (Lib.count s [32]) ⟨s.toArray⟩;rw [List.length_map] at this;have h3:(BG s).length=(Lib.splitB ⟨#[32]⟩ 0 (Lib.count s [32]) ⟨s.toArray⟩).length:=this.symm
   omega
  have h4:Lib.count s [32]<=s.length:=by rw [Lib.count_one];exact List.count_le_length
  omega
 refine Ad func70 ntmps70 rfl rfl ?_
 refine cS ?_;refine eA [_,_,_,_,_,_,_,_,_,_,_,_] ?_;intro b1 w2 h5 x6 p7 z8;replace F:=F.ext x6;replace E:=E.ext x6;replace X:=X.ext x6;clear x6;refine C1 Pa (C1 Pa (cN ?_));refine eA [_,_,_,_,_,_,_,_,_,_,_,_] ?_;intro b9 c3 af bm c4 c5;replace h5:=h5.ext bm;replace F:=F.ext bm;replace E:=E.ext bm;replace X:=X.ext bm;clear bm;refine cN ?_;refine Bm [_] Ci rfl rfl ?_;intro bi ce bw;refine eI [_] bw ?_;clear bw ce;intro c6 ag bj c7 c8;replace af:=af.ext bj;replace h5:=h5.ext bj;replace F:=F.ext bj;replace E:=E.ext bj;replace X:=X.ext bj;clear bj;refine cN ?_;refine eQ rfl (HF.out _ _ _) ?_;rintro _ c9 ⟨bk,⟨⟨⟩,⟨ah,⟨da,bb⟩⟩⟩⟩;have db:=bb.size;replace ag:=ag.ext bb;replace af:=af.ext bb;replace h5:=h5.ext bb;replace F:=F.ext bb;replace E:=E.ext bb;replace X:=X.ext bb;clear bb;refine C1 Pa (cN (C1 Mv ?_));refine eQ rfl (HS.out _ Ag) ?_;rintro _ dc ⟨bn,⟨⟨⟩,⟨ai,⟨dd,⟨de,a8⟩⟩⟩⟩⟩;have z37:=a8.size;replace ah:=ah.ext a8;replace ag:=ag.ext a8;replace af:=af.ext a8;replace h5:=h5.ext a8;replace F:=F.ext a8;replace E:=E.ext a8;replace X:=X.ext a8;clear a8;refine C1 Pa (cT (Ah ?_))
 clear HF HS
 generalize BG s=ws at *
 rcases (Decidable.em (ws.length=14)).symm with hl|hl
 . have e:Qi ws = .tuple #[.agg zeroEX.cells0.toArray,.int .i64 0,.bool false]:=AC (fun h=>hl h.1);rw [e]
   refine cS (C1 Mv (C1 Pz (C1 Mv (C1 Pz ?_))));refine C1 (DL rfl rfl (aQ _ Aa)) ?_;refine C1 V7 (C1 V2 (C1 Mv (Wg (Wg (Wg (Wg (C1 RL (C1 Mv (A0 rfl rfl rfl (rfl) rfl (A0 rfl rfl rfl (rfl) rfl (A0 rfl rfl rfl (rfl) rfl ?_)))))))))));refine A0 rfl rfl rfl (rfl) rfl (A0 rfl rfl rfl (rfl) rfl (C1 (BA rfl rfl rfl) (cT (BY rfl (cS (C1 (BU [_,_,_,_,_,_,_,_,_,_,_,_] Ac Ci rfl rfl rfl rfl) ?_))))));refine eS [_,_,_,_,_,_,_,_,_,_,_,_] h5 ?_;intro df cf bc dg;clear h5;replace ah:=ah.fr bc Aa;replace ag:=ag.fr bc Aa;replace af:=af.fr bc Aa;replace F:=F.fr bc Aa;replace E:=E.fr bc Aa;replace X:=X.fr bc Aa;replace ai:=ai.fr bc Aa;clear bc;refine C1 Pa (C1 Pa (cT (AY (Ar (CH rfl Ac rfl rfl rfl cf rfl rfl rfl ?_)))))
   exact ⟨rfl,X⟩
 have r0:=Id ai 0 Aa;have r1:=Id ai 1 Aa;have bx:=HL.out 1
 rcases (Decidable.em (ws.getD 0 []=[101,120,101,114,99,105,115,101])).symm with h0|h0
 . have e:Qi ws = .tuple #[.agg zeroEX.cells0.toArray,.int .i64 0,.bool false]:=AC (fun h=>h0 h.2.1);rw [e];clear e bx r1
   generalize ws.getD 0 []=x0 at *
   refine cS (C1 Mv (C1 Pz (C1 Mv (C1 Pz ?_))));refine C1 (DL rfl rfl (aQ _ Aa)) ?_;refine C1 V7 (C1 V2 (C1 Mv (GZ (C1 Mv (GZ (C1 Pi (GZ (C1 (Pw r0) (GZ (C1 V9 (C1 Mb ?_)))))))))));refine C1 Mv (Qx (Qx (Qx (Qx (Qx (C1 T9 (cT (BY rfl (cS (C1 (BU [_,_,_,_,_,_,_,_,_,_,_,_] Ac Ci rfl rfl rfl rfl) ?_))))))))));refine eS [_,_,_,_,_,_,_,_,_,_,_,_] h5 ?_;intro dh cg a9 di;clear h5;replace ah:=ah.fr a9 Aa;replace ag:=ag.fr a9 Aa;replace af:=af.fr a9 Aa;replace F:=F.fr a9 Aa;replace E:=E.fr a9 Aa;replace X:=X.fr a9 Aa;replace ai:=ai.fr a9 Aa;replace r0:=dE r0 a9 (by simp only;omega);clear a9;refine C1 Pa (C1 Pa (cT (AY (Ar (CH rfl Ac rfl rfl rfl cg rfl rfl rfl ?_)))))
   exact ⟨rfl,X⟩
 rw [h0] at r0;have HN:=Z2 (fun w1=>GF (ws.getD 1 []) w1 Aa)
 cases hnm:Bc (ws.getD 1 [])
 . have e:Qi ws = .tuple #[.agg zeroEX.cells0.toArray,.int .i64 0,.bool false]:=AC (fun h=>by have:=h.2.2.1;rw [hnm] at this;cases this);rw [e];rw [hnm] at HN;clear e bx hnm
   generalize ws.getD 1 []=x1 at *
   refine cS (C1 Mv (C1 Pz (C1 Mv (C1 Pz ?_))));refine C1 (DL rfl rfl (aQ _ Aa)) ?_;refine C1 V7 (C1 V2 (C1 Mv (GZ (C1 Mv (GZ (C1 Pi (GZ (C1 (Pw r0) (GZ (C1 V9 (C1 Mb ?_)))))))))));refine C1 Mv (G2 (C1 Mv (G2 (C1 Pi (G2 (C1 (Zo r1) (G2 (cC rfl (HN.out _) ?_))))))));rintro _ dk ⟨⟨⟩,au⟩;have dl:=au.size;replace ah:=ah.ext au;replace ag:=ag.ext au;replace af:=af.ext au;replace h5:=h5.ext au;replace F:=F.ext au;replace E:=E.ext au;replace X:=X.ext au;replace ai:=ai.ext au;replace r0:=r0.ext au;replace r1:=r1.ext au;clear au;refine G2 (C1 Pt (C1 T0 (cT (BY rfl (cS (C1 (BU [_,_,_,_,_,_,_,_,_,_,_,_] Ac Ci rfl rfl rfl rfl) ?_))))));refine eS [_,_,_,_,_,_,_,_,_,_,_,_] h5 ?_;intro dm ch a5 dn;clear h5;replace ah:=ah.fr a5 Aa;replace ag:=ag.fr a5 Aa;replace af:=af.fr a5 Aa;replace F:=F.fr a5 Aa;replace E:=E.fr a5 Aa;replace X:=X.fr a5 Aa;replace ai:=ai.fr a5 Aa;replace r0:=dE r0 a5 (by simp only;omega);replace r1:=dE r1 a5 (by simp only;omega);clear a5;refine C1 Pa (C1 Pa (cT (AY (Ar (CH rfl Ac rfl rfl rfl ch rfl rfl rfl ?_)))))
   exact ⟨rfl,X⟩
 rw [hnm] at HN
 refine cS (C1 Mv (C1 Pz (C1 Mv (C1 Pz ?_))));refine C1 (DL rfl rfl (aQ _ Aa)) ?_;refine C1 V7 (C1 V2 (C1 Mv (GZ (C1 Mv (GZ (C1 Pi (GZ (C1 (Pw r0) (GZ (C1 V9 (C1 Mb ?_)))))))))));refine C1 Mv (G2 (C1 Mv (G2 (C1 Pi (G2 (C1 (Zo r1) (G2 (cC rfl (HN.out _) ?_))))))));rintro _ dp ⟨⟨⟩,av⟩;have dq:=av.size;replace ah:=ah.ext av;replace ag:=ag.ext av;replace af:=af.ext av;replace h5:=h5.ext av;replace F:=F.ext av;replace E:=E.ext av;replace X:=X.ext av;replace ai:=ai.ext av;replace r0:=r0.ext av;replace r1:=r1.ext av;clear av;refine G2 (C1 Pt (C1 T0 (cT (AR rfl (Am (Ae (cS (C1 Mv (C1 Pi (C1 (Zo r1) (C1 Pg ?_)))))))))));refine eV [_] [_,_,_,_,_,_,_,_,_,_,_,_] af ?_;intro dr bz a6 ds;clear af;replace ah:=ah.fr a6 Aa;replace ag:=ag.fr a6 Aa;replace h5:=h5.fr a6 Aa;replace F:=F.fr a6 Aa;replace E:=E.fr a6 Aa;replace X:=X.fr a6 Aa;replace ai:=ai.fr a6 Aa;replace r0:=dE r0 a6 (by simp only;omega);replace r1:=dE r1 a6 (by simp only;omega);clear a6;refine cT (Ah (cS (C1 Mv (C1 Pz (C1 Mv (cT ?_))))))
 refine At ?_;refine AK (ι:=Nat) (fun j=>[(2,.pointer (some ⟨b1,0,none⟩)),(5,.pointer (some ⟨b9,0,none⟩)),(6,.pointer (some ⟨bi,0,none⟩)),(8,.slice (some ⟨bn,0,none⟩) ws.length ws.length),(43,.slice (some ⟨bk,0,none⟩) 6 6),(44,.int .i64 6),(45,.int .i64 j)])
  (fun j w'=>j<=6/\(∀i,i<j->Qh ws i)/\Blk w' b9 (Nf ws j).cells0/\Blk w' bi [.int .i64 (if 5<j then CM ws 5 else 0)]/\Blk w' b1 zeroEX.cells0/\Blk w' bk (EO b9 bi)/\Blk w' bn (ws.map str)/\Errs2 w'/\TabsF w'/\Ext w w'/\bk<w'.heap.size/\bn<w'.heap.size)
  (fun j=>6-j) 0 sB ⟨aE _,fun i h=>absurd h Aa,bz,ag,h5,ah,ai,F,E,X,ah.lt,ai.lt⟩ ?_
 clear bz ag h5 ah ai F E X r0 r1 HN;rintro j w3 ⟨hj,hq,h9,f,h1,O,U,F,E,X,dt,du⟩;have HQ:=Z2 hq;clear hq;have hz:=X.size
 by_cases ci:j<6
 . have ra:Row w3 ⟨bn,0+((2:Int)+2*(j:Int)).toNat*1,none⟩ [str (ws.getD (2+2*j) [])]:=by rw [show 0+((2:Int)+2*(j:Int)).toNat*1=2+2*j from by omega];exact Id U (2+2*j) Aa
   have rb:Row w3 ⟨bn,0+((3:Int)+2*(j:Int)).toNat*1,none⟩ [str (ws.getD (3+2*j) [])]:=by rw [show 0+((3:Int)+2*(j:Int)).toNat*1=3+2*j from by omega];exact Id U (3+2*j) Aa
   have bu:=HL.out (3+2*j)
   have bo:Qh ws j -> ∀i,i<j+1->Qh ws i:=fun h i hi=>by
    rcases aL i j with h1|h1
    . exact HQ.out i h1
    . obtain rfl:i=j:=by omega
      exact h
   have bl : ¬Qh ws j->Qi ws = .tuple #[.agg zeroEX.cells0.toArray,.int .i64 0,.bool false]:=fun h=>AC (fun h'=>h (h'.2.2.2 j ci))
   obtain ⟨fb,fo,rf,hf⟩ : ∃fb fo,Row w3 ⟨bk,0+j*2,none⟩ [str (hwords.getD j []),.pointer (some ⟨fb,fo,none⟩)]/\(j<5/\fb=b9/\fo=1+j\/j=5/\fb=bi/\fo=0):=by
    rcases aL j 5 with h|h
    . exact ⟨_,_,TF b9 bi w3 bk O j h,Z6 ⟨h,rfl,rfl⟩⟩
    . obtain rfl:j=5:=by omega
      exact ⟨_,_,Rn b9 bi w3 bk O,aA ⟨rfl,rfl,rfl⟩⟩
   have HU:=Z2 (fun w1 h1 h2=>Rg (ws.getD (3+2*j) []) Aa w1 h1 h2)
   unfold Qh at bo bl
   have bv:CM ws j=(D0 (ws.getD (3+2*j) [])).1:=rfl
   have bh:j<5->(Nf ws j).cells0.set (1+j) (.int .i64 (D0 (ws.getD (3+2*j) [])).1)=(Nf ws (j+1)).cells0:=fun h=>TE ws j h
   generalize ws.getD (2+2*j) []=xa at *
   generalize ws.getD (3+2*j) []=xb at *
   generalize hwords.getD j []=wd at *
   by_cases hw:xa=wd
   . subst hw
     cases hn:(D0 xb).2
     . rw [bl (fun h=>by rw [hn] at h;cases h.2)];rw [hn] at HU;clear bo bl bv bh hn bu
       generalize (D0 xb).1=nn at *
       refine cS (C1 V3 (cT (Ah (Ub (Am (Ae (Ah (At (cS (C1 Mv (C1 Pi ?_)))))))))));refine C1 (VP rf) ?_;refine eA [_,_] ?_;intro dv dw b0 aw dx dy;replace h9:=h9.ext aw;replace f:=f.ext aw;replace h1:=h1.ext aw;replace O:=O.ext aw;replace U:=U.ext aw;replace F:=F.ext aw;replace E:=E.ext aw;replace X:=X.ext aw;replace ra:=ra.ext aw;replace rb:=rb.ext aw;replace rf:=rf.ext aw;clear aw;refine C1 Pa ?_;refine eS [_,_] b0 ?_;intro b2 an aa ck;clear b0;replace h9:=h9.fr aa Aa;replace f:=f.fr aa Aa;replace h1:=h1.fr aa Aa;replace O:=O.fr aa Aa;replace U:=U.fr aa Aa;replace F:=F.fr aa Aa;replace E:=E.fr aa Aa;replace X:=X.fr aa Aa;replace ra:=dE ra aa (by simp only;omega);replace rb:=dE rb aa (by simp only;omega);replace rf:=dE rf aa (by simp only;omega);clear aa;refine cT (Ah ?_);refine AD (fun wz=>Ext b2 wz) 13 (.pure 0 (.pure 1 (.pure 2 (.pure 3 (.pure 4 (.pure 5 (.pure 6 (.pure 7 (.pure 8 (.pure 9 (.pure 10 (.pure 11 (.pure 12 .tail))))))))))))) mixed Bo (Ab (Al (Ab (Ab (Al (Ab An)))))) ?_;intro b3 L _;have be:(fun wz=>Ext b2 wz) b3:=L;simp only at be;have bp:=an;have ao:=h9;have aj:=f;have az:=h1
       have a0:=O;have a1:=U;have a2:=F;have a3:=E;have ap:=ra;have aq:=rb;have bd:=rf;have cl:=L.size;replace an:=an.ext L;replace h9:=h9.ext L;replace f:=f.ext L;replace h1:=h1.ext L;replace O:=O.ext L;replace U:=U.ext L;replace F:=F.ext L;replace E:=E.ext L;replace X:=X.ext L;replace ra:=ra.ext L;replace rb:=rb.ext L;replace rf:=rf.ext L;clear L;refine ⟨be,?_⟩;refine Tq rfl Mv (Tq rfl Mv ?_);refine Tq rfl (DL rfl rfl (aQ _ Aa)) ?_;refine Tq rfl V7 (Tq rfl Pi (Tq rfl (AA Ac rfl rfl rfl (fun wz hz=>dM (dF ap hz) rfl)) (Tq rfl Mv (Tq rfl Mv ?_))));refine Tq rfl (DL rfl rfl (aQ _ Aa)) ?_;refine Tq rfl V7 (Tq rfl Pi (Tq rfl (AA Ac rfl rfl rfl (fun wz hz=>dM (dF aq hz) rfl)) (Tq rfl Pa ?_)));clear be bp ao aj az a0 a1 a2 a3 ap aq bd;refine AE rfl (C1 Pa (cN (C1 Mv ?_)));refine cC rfl (HU.out _ Ag Ag) ?_;rintro _ cm ⟨⟨⟩,V⟩;have cn:=V.size;replace an:=an.ext V;replace h9:=h9.ext V;replace f:=f.ext V;replace h1:=h1.ext V;replace O:=O.ext V;replace U:=U.ext V;replace F:=F.ext V;replace E:=E.ext V;replace X:=X.ext V;replace ra:=ra.ext V;replace rb:=rb.ext V;replace rf:=rf.ext V;clear V
       refine C1 Mv (C1 Px (C1 Px (C1 Pa (C1 Pa (cT (Ah (cS (C1 Mv (C1 Pg (C1 (Pl an) (C1 V9 ?_)))))))))));refine C1 Mv (Ba rfl rfl rfl (Ik (not_not_intro rfl)) (C1 Mv (Ba rfl rfl rfl (Ik (not_not_intro rfl)) (C1 Pt (C1 (Qn (not_not_intro rfl)) (cT (BY rfl (cS (C1 (BU [_,_,_,_,_,_,_,_,_,_,_,_] Ac Ci rfl rfl rfl rfl) ?_)))))))));refine eS [_,_,_,_,_,_,_,_,_,_,_,_] h1 ?_;intro co b4 ab cp;clear h1;replace an:=an.fr ab Aa;replace h9:=h9.fr ab Aa;replace f:=f.fr ab Aa;replace O:=O.fr ab Aa;replace U:=U.fr ab Aa;replace F:=F.fr ab Aa;replace E:=E.fr ab Aa;replace X:=X.fr ab Aa;replace ra:=dE ra ab (by simp only;omega);replace rb:=dE rb ab (by simp only;omega);replace rf:=dE rf ab (by simp only;omega);clear ab;refine C1 Pa (C1 Pa (cT (AY (Ar (AH (Ar (Ar (AH (Ar (CH rfl Ac rfl rfl rfl b4 rfl rfl rfl ?_))))))))))
       exact ⟨rfl,X⟩
     . have bt:=bo ⟨rfl,hn⟩;rw [hn] at HU;clear bo bl hn bu
       generalize (D0 xb).1=nn at *
       have HO:=Z2 bt;clear bt;have HT:=Z2 bh;clear bh
       refine cS (C1 V3 (cT (Ah (Ub (Am (Ae (Ah (At (cS (C1 Mv (C1 Pi ?_)))))))))));refine C1 (VP rf) ?_;refine eA [_,_] ?_;intro dz d0 b5 ax d1 d2;replace h9:=h9.ext ax;replace f:=f.ext ax;replace h1:=h1.ext ax;replace O:=O.ext ax;replace U:=U.ext ax;replace F:=F.ext ax;replace E:=E.ext ax;replace X:=X.ext ax;replace ra:=ra.ext ax;replace rb:=rb.ext ax;replace rf:=rf.ext ax;clear ax;refine C1 Pa ?_;refine eS [_,_] b5 ?_;intro b6 ak ac cq;clear b5;replace h9:=h9.fr ac Aa;replace f:=f.fr ac Aa;replace h1:=h1.fr ac Aa;replace O:=O.fr ac Aa;replace U:=U.fr ac Aa;replace F:=F.fr ac Aa;replace E:=E.fr ac Aa;replace X:=X.fr ac Aa;replace ra:=dE ra ac (by simp only;omega);replace rb:=dE rb ac (by simp only;omega);replace rf:=dE rf ac (by simp only;omega);clear ac;refine cT (Ah ?_);refine AD (fun wz=>Ext b6 wz) 13 (.pure 0 (.pure 1 (.pure 2 (.pure 3 (.pure 4 (.pure 5 (.pure 6 (.pure 7 (.pure 8 (.pure 9 (.pure 10 (.pure 11 (.pure 12 .tail))))))))))))) mixed Bo (Ab (Al (Ab (Ab (Al (Ab An)))))) ?_;intro b7 M _;have bf:(fun wz=>Ext b6 wz) b7:=M;simp only at bf;have bq:=ak;have ao:=h9;have aj:=f;have az:=h1
       have a0:=O;have a1:=U;have a2:=F;have a3:=E;have ap:=ra;have aq:=rb;have bd:=rf;have cr:=M.size;replace ak:=ak.ext M;replace h9:=h9.ext M;replace f:=f.ext M;replace h1:=h1.ext M;replace O:=O.ext M;replace U:=U.ext M;replace F:=F.ext M;replace E:=E.ext M;replace X:=X.ext M;replace ra:=ra.ext M;replace rb:=rb.ext M;replace rf:=rf.ext M;clear M;refine ⟨bf,?_⟩;refine Tq rfl Mv (Tq rfl Mv ?_);refine Tq rfl (DL rfl rfl (aQ _ Aa)) ?_;refine Tq rfl V7 (Tq rfl Pi (Tq rfl (AA Ac rfl rfl rfl (fun wz hz=>dM (dF ap hz) rfl)) (Tq rfl Mv (Tq rfl Mv ?_))));refine Tq rfl (DL rfl rfl (aQ _ Aa)) ?_;refine Tq rfl V7 (Tq rfl Pi (Tq rfl (AA Ac rfl rfl rfl (fun wz hz=>dM (dF aq hz) rfl)) (Tq rfl Pa ?_)));clear bf bq ao aj az a0 a1 a2 a3 ap aq bd;refine AE rfl (C1 Pa (cN (C1 Mv ?_)));refine cC rfl (HU.out _ Ag Ag) ?_;rintro _ ct ⟨⟨⟩,Y⟩;have cu:=Y.size;replace ak:=ak.ext Y;replace h9:=h9.ext Y;replace f:=f.ext Y;replace h1:=h1.ext Y;replace O:=O.ext Y;replace U:=U.ext Y;replace F:=F.ext Y;replace E:=E.ext Y;replace X:=X.ext Y;replace ra:=ra.ext Y;replace rb:=rb.ext Y;replace rf:=rf.ext Y;clear Y
       refine C1 Mv (C1 Px (C1 Px (C1 Pa (C1 Pa (cT (Ah (cS (C1 Mv (C1 Pg (C1 (Pl ak) (C1 V9 ?_)))))))))));refine C1 Mv (Ba rfl rfl rfl (Ik (not_not_intro rfl)) (C1 Mv (Ba rfl rfl rfl (Ik (not_not_intro rfl)) (C1 Pt (C1 (Qn (not_not_intro rfl)) (cT (AR rfl (Am (Ae (Aj (C1 Pf ?_)))))))))));refine C1 (Pl ak) (C1 Mv (C1 Pn ?_))
       rcases hf with ⟨h5,rfl,rfl⟩|⟨rfl,rfl,rfl⟩
       . replace HT:=Z2 (HT.out h5)
         refine Dn (Ks Ac rfl rfl rfl Ag (by show 1+j<12;omega)) ?_;refine Ge ?_;rintro _ d3 ⟨d4,⟨al,d5⟩⟩;have d6:=al.size;replace f:=f.fr al Aa;replace h1:=h1.fr al Aa;replace U:=U.fr al Aa;replace F:=F.fr al Aa;replace E:=E.fr al Aa;replace X:=X.fr al Aa;replace ra:=dE ra al (by simp only;omega);replace rb:=dE rb al (by simp only;omega);clear h9;replace O:=O.fr al Aa;replace ak:=ak.fr al Aa;replace rf:=dE rf al (by simp only;omega);clear al;refine Ai (Af (Ae (Aj (C1 V7 (C1 Mv (Ai ?_))))))
         exact Ay (j+1) sB ⟨Aa,HO.out,by rw [<-HT.out];assumption,by rw [AC Aa] at f ⊢;exact f,h1,O,U,F,E,X,Aa,Aa⟩ Aa
       . clear HT
         refine Dn (Ks Ac rfl rfl rfl Ag (by show 0<1;omega)) ?_;refine Ge ?_;rintro _ d7 ⟨d8,⟨am,d9⟩⟩;have ea:=am.size;replace h1:=h1.fr am Aa;replace U:=U.fr am Aa;replace F:=F.fr am Aa;replace E:=E.fr am Aa;replace X:=X.fr am Aa;replace h9:=h9.fr am Aa;replace ra:=dE ra am (by simp only;omega);replace rb:=dE rb am (by simp only;omega);replace O:=O.fr am Aa;clear f;replace ak:=ak.fr am Aa;replace rf:=dE rf am (by simp only;omega);clear am;refine Ai (Af (Ae (Aj (C1 V7 (C1 Mv (Ai ?_))))))
         exact Ay 6 sB ⟨Aa,HO.out,h9,by show Blk _ _ [.int .i64 (CM ws 5)];rw [bv];assumption,h1,O,U,F,E,X,Aa,Aa⟩ Aa
   . rw [bl (fun h=>hw h.1)];clear bo bl bv bh bu
     generalize (D0 xb).1=nn at *
     generalize (D0 xb).2=ok at *
     refine cS (C1 V3 (cT (Ah (Ub (Am (Ae (Ah (At (cS (C1 Mv (C1 Pi ?_)))))))))));refine C1 (VP rf) ?_;refine eA [_,_] ?_;intro ec ed b8 ay ee ef;replace h9:=h9.ext ay;replace f:=f.ext ay;replace h1:=h1.ext ay;replace O:=O.ext ay;replace U:=U.ext ay;replace F:=F.ext ay;replace E:=E.ext ay;replace X:=X.ext ay;replace ra:=ra.ext ay;replace rb:=rb.ext ay;replace rf:=rf.ext ay;clear ay;refine C1 Pa ?_;refine eS [_,_] b8 ?_;intro ca ar ad cv;clear b8;replace h9:=h9.fr ad Aa;replace f:=f.fr ad Aa;replace h1:=h1.fr ad Aa;replace O:=O.fr ad Aa;replace U:=U.fr ad Aa;replace F:=F.fr ad Aa;replace E:=E.fr ad Aa;replace X:=X.fr ad Aa;replace ra:=dE ra ad (by simp only;omega);replace rb:=dE rb ad (by simp only;omega);replace rf:=dE rf ad (by simp only;omega);clear ad;refine cT (Ah ?_);refine AD (fun wz=>Ext ca wz) 13 (.pure 0 (.pure 1 (.pure 2 (.pure 3 (.pure 4 (.pure 5 (.pure 6 (.pure 7 (.pure 8 (.pure 9 (.pure 10 (.pure 11 (.pure 12 .tail))))))))))))) mixed Bo (Ab (Al (Ab (Ab (Al (Ab An)))))) ?_;intro cb N _;have bg:(fun wz=>Ext ca wz) cb:=N;simp only at bg;have br:=ar;have ao:=h9;have aj:=f;have az:=h1
     have a0:=O;have a1:=U;have a2:=F;have a3:=E;have ap:=ra;have aq:=rb;have bd:=rf;have cw:=N.size;replace ar:=ar.ext N;replace h9:=h9.ext N;replace f:=f.ext N;replace h1:=h1.ext N;replace O:=O.ext N;replace U:=U.ext N;replace F:=F.ext N;replace E:=E.ext N;replace X:=X.ext N;replace ra:=ra.ext N;replace rb:=rb.ext N;replace rf:=rf.ext N;clear N;refine ⟨bg,?_⟩;refine Tq rfl Mv (Tq rfl Mv ?_);refine Tq rfl (DL rfl rfl (aQ _ Aa)) ?_;refine Tq rfl V7 (Tq rfl Pi (Tq rfl (AA Ac rfl rfl rfl (fun wz hz=>dM (dF ap hz) rfl)) (Tq rfl Mv (Tq rfl Mv ?_))));refine Tq rfl (DL rfl rfl (aQ _ Aa)) ?_;refine Tq rfl V7 (Tq rfl Pi (Tq rfl (AA Ac rfl rfl rfl (fun wz hz=>dM (dF aq hz) rfl)) (Tq rfl Pa ?_)));clear bg br ao aj az a0 a1 a2 a3 ap aq bd;refine AE rfl (C1 Pa (cN (C1 Mv ?_)));refine cC rfl (HU.out _ Ag Ag) ?_;rintro _ cx ⟨⟨⟩,Z⟩;have cy:=Z.size;replace ar:=ar.ext Z;replace h9:=h9.ext Z;replace f:=f.ext Z;replace h1:=h1.ext Z;replace O:=O.ext Z;replace U:=U.ext Z;replace F:=F.ext Z;replace E:=E.ext Z;replace X:=X.ext Z;replace ra:=ra.ext Z;replace rb:=rb.ext Z;replace rf:=rf.ext Z;clear Z
     refine C1 Mv (C1 Px (C1 Px (C1 Pa (C1 Pa (cT (Ah (cS (C1 Mv (C1 Pg (C1 (Pl ar) (C1 V9 ?_)))))))))));refine C1 Mv (Qx (Qx (C1 T9 (cT (BY rfl (cS (C1 (BU [_,_,_,_,_,_,_,_,_,_,_,_] Ac Ci rfl rfl rfl rfl) ?_)))))));refine eS [_,_,_,_,_,_,_,_,_,_,_,_] h1 ?_;intro cz cc ae c0;clear h1;replace ar:=ar.fr ae Aa;replace h9:=h9.fr ae Aa;replace f:=f.fr ae Aa;replace O:=O.fr ae Aa;replace U:=U.fr ae Aa;replace F:=F.fr ae Aa;replace E:=E.fr ae Aa;replace X:=X.fr ae Aa;replace ra:=dE ra ae (by simp only;omega);replace rb:=dE rb ae (by simp only;omega);replace rf:=dE rf ae (by simp only;omega);clear ae;refine C1 Pa (C1 Pa (cT (AY (Ar (AH (Ar (Ar (AH (Ar (CH rfl Ac rfl rfl rfl cc rfl rfl rfl ?_))))))))))
     exact ⟨rfl,X⟩
 obtain rfl:j=6:=by omega
 have e:Qi ws = .tuple #[.agg (Yb ws).cells0.toArray,.int .i64 (CM ws 5),.bool true]:=AX ⟨hl,h0,hnm,HQ.out⟩;rw [e]
 unfold EX.cells0 EX.cells at h9
 refine cS (C1 V3 (cT (Ah (VQ (C3 (AG (AG (Bd (Ae (Ah ?_))))))))));refine AD (fun wz=>Fr (fun x=>x=b1) w3 wz) 3 (.pure 0 (.pure 1 (.fork 2 .tail .none))) mixed Bo (Ab An) ?_;intro cj a4 _;have a7:(fun wz=>Fr (fun x=>x=b1) w3 wz) cj:=Fr.of_ext a4;simp only at a7;have az:=h1;have a0:=O;have a1:=U;have a2:=F;have a3:=E;have ao:=h9;have aj:=f;have eg:=a4.size;replace h1:=h1.ext a4;replace O:=O.ext a4;replace U:=U.ext a4;replace F:=F.ext a4;replace E:=E.ext a4;replace X:=X.ext a4;replace h9:=h9.ext a4;replace f:=f.ext a4;clear a4;refine ⟨a7,?_⟩;refine Tq rfl (Cc [_,_,_,_,_,_,_,_,_,_,_,_] Ac rfl rfl rfl (fun wz hz=>(Blk.fr ao hz (by first|omega|(dsimp only;omega)))) rfl rfl) ?_;refine Tq rfl (AA Ac rfl rfl rfl (fun wz hz=>Blk.cell (Blk.fr aj hz (by first|omega|(dsimp only;omega))) rfl)) ?_;refine IQ [_,_,_,_,_,_,_,_,_,_,_,_] [_,_,_,_,_,_,_,_,_,_,_,_] rfl Ac rfl rfl rfl rfl rfl rfl h1 rfl rfl ?_ A4;intro eh bs;have cd:=bs.blk;have ba:=bs.fr;have ei:=bs.size;clear bs h1;replace a7:=a7.fr ba Aa;replace O:=O.fr ba Aa;replace U:=U.fr ba Aa;replace F:=F.fr ba Aa;replace E:=E.fr ba Aa;replace X:=X.fr ba Aa
 replace h9:=h9.fr ba Aa;replace f:=f.fr ba Aa;clear ba;refine ⟨a7,?_⟩;clear az a0 a1 a2 a3 ao aj a7;refine AE rfl (C1 Pa (C1 Pa (cT (AY (CH rfl Ac rfl rfl rfl cd rfl rfl rfl ?_)))))
 exact ⟨rfl,X⟩
abbrev GV:=List lB
inductive Nt where
 | ex (lv:Int):Nt
 | cl (lv:Int) (x:Nd):Nt
 | un:Nt
 | pl:Nt
def Sn (lv:Int) (b:GV):Prop:= ∀t∈b.head?,∀op,Im t=some op->Ca op<lv
inductive G:Nt->GV->Nd->Prop where
 | ex {lv:Int} {a b:GV} {x y:Nd}:G .un a x->G (.cl lv x) b y->G (.ex lv) (a++b) y
 | cl0 {lv:Int} {x:Nd}:G (.cl lv x) [] x
 | cl1 {lv op:Int} {t:lB} {a b:GV} {x y z:Nd}:Im t=some op->lv<=Ca op->G (.ex (Ca op+1)) a y->Sn (Ca op+1) b->G (.cl lv (.mk op 0 [] [x,y])) b z->G (.cl lv x) (t::(a++b)) z
 | neg {a:GV} {x:Nd}:G .un a x->G .un ([45]::a) (.mk 6 0 [] [x])
 | not {a:GV} {x:Nd}:G .un a x->G .un ([33]::a) (.mk 7 0 [] [x])
 | num {t:lB}:Eg t=true->(Bp t:Int)<=9223372036854775807->G .un [t] (.mk 1 (Bp t) [] [])
 | top {m:lB}:Bc m=true->G .un [[116,111,112],[40],m,[41]] (.mk 4 0 m [])
 | size {m:lB}:Bc m=true->G .un [[115,105,122,101],[40],m,[41]] (.mk 5 0 m [])
 | par {a:GV} {x:Nd}:G (.ex 1) a x->G .un ([40]::(a++[[41]])) x
 | place {a:GV} {x:Nd}:G .pl a x->G .un a x
 | var {m:lB}:Bc m=true->G .pl [m] (.mk 2 0 m [])
 | item {m:lB} {a:GV} {x:Nd}:Bc m=true->G (.ex 1) a x->G .pl (m::[91]::(a++[[93]])) (.mk 3 0 m [x])
section
variable {ts:List Tok} {n:Int}
def Xv (ts:List Tok):GV:=ts.map Tok.text
def Zq (σ:PS) (k:Nat):PS:=⟨σ.at_+k,σ.off,σ.err⟩
def rem (ts:List Tok) (σ:PS):GV:=(Xv ts).drop σ.at_
def Oj (σ:PS):(rem ts σ).length=ts.length-σ.at_:=by simp [rem,Xv]
def Xw {σ:PS} {a b:GV} (h:rem ts σ=a++b):rem ts (Zq σ a.length)=b:=by
 unfold rem Zq at *;simp only;rw [<-List.drop_drop,h];simp
def Vq {σ:PS} {t:lB} {b:GV} (h:rem ts σ=t::b):rem ts (Zq σ 1)=b:=Xw (a:=[t]) h
def YI {σ:PS} {t:lB} {b:GV} (h:rem ts σ=t::b):σ.at_<ts.length:=by
 have:=Oj (ts:=ts) σ;rw [h] at this;simp at this;omega
def Ng {σ:PS} {t:lB} {b:GV} (h:rem ts σ=t::b) (E:σ.err=0):(Ap ts σ).text=t:=by
 have f:=YI h;unfold Ap;rw [AC (by rintro (h|h);exact h E;omega)];unfold rem Xv at h;rw [bD (by simpa using f)] at h;simp only [List.getElem_map,aX] at h;rw [bT,Z0 f];exact h.1
def Gs {σ:PS} (f:σ.at_<ts.length) (E:σ.err=0):Ap ts σ∈ts:=by
 unfold Ap;rw [AC (by rintro (h|h);exact h E;omega),bT,Z0 f];exact Z8 f
def Vr {σ:PS} (E:σ.at_<ts.length) (f:σ.err=0):rem ts σ=(Ap ts σ).text::rem ts (Zq σ 1):=by
 cases h:rem ts σ with
 | nil=>have:=Oj (ts:=ts) σ;rw [h] at this;simp at this;omega
 | cons t b=>rw [Ng h f,Vq h]
end
section
variable {ts:List Tok} {n:Int}
end
section
variable {ts:List Tok} {n:Int}
def So {σ:PS} {lv:Int} (L:σ.at_<=ts.length) (E:σ.err=0) (h : ∀op,Im (Ap ts σ).text=some op->Ca op<lv):Sn lv (rem ts σ):=by
 intro t f op F;cases hr:rem ts σ with
 | nil=>rw [hr] at f;cases f
 | cons u b=>
  rw [hr] at f;have:t=u:=by simpa using f.symm
  subst this;exact h op (by rw [Ng hr E];exact F)
def Seg (ts:List Tok) (σ σ':PS) (a:GV):Prop:=rem ts σ=a++rem ts σ'
def Seg.refl (σ:PS):Seg ts σ σ []:=rfl
def Seg.trans {σ f E:PS} {a b:GV} (h:Seg ts σ f a) (k:Seg ts f E b):Seg ts σ E (a++b):=by unfold Seg at *;rw [h,k,aW]
def D4 {σ:PS} (h:In ts σ):Seg ts σ (Ao σ) [(Ap ts σ).text]:=Vr h.2 h.1
def D6 {σ:PS} {t:lB} (f:σ.at_<=ts.length) (h:B5 ts σ t=true) (E:t≠[]):Seg ts σ (Ao σ) [t]:=by
 have:=D4 (AM f h E);have e:(Ap ts σ).text=t:=of_decide_eq_true h;rwa [e] at this
def BW {σ:PS} {t:lB} (E:σ.at_<=ts.length) (F:t≠[]) (f:(Av ts n σ t).err=0):Seg ts σ (Av ts n σ t) [t]:=by
 unfold Av at *;split at f
 . rename_i h;rw [AX h];exact D6 E h F
 . exact absurd f Ef
def CL {σ:PS} (E:σ.at_<=ts.length) (h:(A2 ts n σ).2.err=0):Seg ts σ (A2 ts n σ).2 [(A2 ts n σ).1]/\Bc (A2 ts n σ).1=true:=by
 unfold A2 at *;split at h
 . rename_i f;rw [AX f];exact ⟨D4 (B2 E (Z6 (Gh f))),f⟩
 . exact absurd h Ef
def L3 (N:BD ts) {f h:Int} {σ:PS} (O:σ.at_<=ts.length) (F:(B0 ts n f h σ).2.err=0) :
 ∃t,Seg ts σ (B0 ts n f h σ).2 [t]/\Eg t=true/\(B0 ts n f h σ).1=(Bp t:Int)/\(Bp t:Int)<=9223372036854775807/\f<=(Bp t:Int)/\(Bp t:Int)<=h:=by
 unfold B0 at *;split at F
 . rename_i M;rw [AX M];have E:=B2 O (aA (by rw [M];decide));split at F
   . rename_i L;rw [AX L];exact ⟨_,D4 E,(N _ (Gs E.2 E.1)).1 M,rfl,L.1,L.2.1,L.2.2⟩
   . exact absurd F (DF Au)
 . exact absurd F Ef
def L4 (hd:BD ts) (k:Nat) :
 (∀lv σ,σ.at_<=ts.length->4*mS ts σ+4<=k->(Bu ts n k lv σ).2.err=0 -> ∃a,Seg ts σ (Bu ts n k lv σ).2 a/\G (.ex lv) a (Bu ts n k lv σ).1/\Sn lv (rem ts (Bu ts n k lv σ).2)) /\
 (∀lv x σ,σ.at_<=ts.length->4*mS ts σ+1<=k->(BV ts n k lv x σ).2.err=0 -> ∃a,Seg ts σ (BV ts n k lv x σ).2 a/\G (.cl lv x) a (BV ts n k lv x σ).1/\Sn lv (rem ts (BV ts n k lv x σ).2)) /\
 (∀ σ,σ.at_<=ts.length->4*mS ts σ+3<=k->(Bf ts n k σ).2.err=0 -> ∃a,Seg ts σ (Bf ts n k σ).2 a/\G .un a (Bf ts n k σ).1) /\
 (∀ σ,σ.at_<=ts.length->4*mS ts σ+2<=k->(Bj ts n k σ).2.err=0 -> ∃a,Seg ts σ (Bj ts n k σ).2 a/\G .un a (Bj ts n k σ).1) /\
 (∀ σ,σ.at_<=ts.length->4*mS ts σ+1<=k->(BC ts n k σ).2.err=0 -> ∃a,Seg ts σ (BC ts n k σ).2 a/\G .pl a (BC ts n k σ).1):=by
 induction k with
 | zero=>refine ⟨fun _ _ _ h=>?_,fun _ _ _ _ h=>?_,fun _ _ h=>?_,fun _ _ h=>?_,fun _ _ h=>?_⟩<;>omega
 | succ k ih=>
  obtain ⟨iE,iC,iU,iP,iL⟩:=ih;obtain ⟨vE,vC,vU,vP,vL⟩:=Ez (ts:=ts) (n:=n) k;refine ⟨fun lv σ h Z E=>?_,fun lv x σ h Z E=>?_,fun σ h Z E=>?_,fun σ h Z E=>?_,fun σ h Z E=>?_⟩
  . rw [Bu] at E ⊢;have hu:=vU σ h;have hc:=vC lv (Bf ts n k σ).1 (Bf ts n k σ).2 hu.1.wf;have U:=R7 hu.1 (hu.2 Aa);have aa:=hc.ok E;obtain ⟨a,N,O⟩:=iU σ h Aa aa;obtain ⟨b,sb,gb,X⟩:=iC lv _ _ hu.1.wf Aa E;exact ⟨a++b,N.trans sb,G.ex O gb,X⟩
  . cases ho:Im (Ap ts σ).text with
    | none=>
     have e:BV ts n (k+1) lv x σ=(x,σ):=by rw [BV];simp only [ho]
     rw [e] at E ⊢;exact ⟨[],Seg.refl _,G.cl0,So h E (fun op e=>by rw [ho] at e;cases e)⟩
    | some op=>
     obtain ⟨ab,ae⟩:=FA ho;have F:=B2 h (Z6 ab);have U:=B9 F;have hp:=QV F;by_cases hl:Ca op<lv
     . have e:BV ts n (k+1) lv x σ=(x,σ):=by rw [BV];simp only [ho];rw [AX hl]
       rw [e] at E ⊢;exact ⟨[],Seg.refl _,G.cl0,So h F.1 (fun o e=>by rw [ho] at e;cases e;exact hl)⟩
     . have e:BV ts n (k+1) lv x σ=BV ts n k lv (.mk op 0 [] [x,(Bu ts n k (Ca op+1) (Ao σ)).1]) (Bu ts n k (Ca op+1) (Ao σ)).2:=by rw [BV];simp only [ho];rw [AC hl]
       rw [e] at E ⊢;have h1:=Aw F;have L:=vE (Ca op+1) (Ao σ) h1.wf;have M:=vC lv (.mk op 0 [] [x,(Bu ts n k (Ca op+1) (Ao σ)).1]) _ L.1.wf;have af:=Bz L.1;obtain ⟨a,N,O,ac⟩:=iE (Ca op+1) (Ao σ) h1.wf Aa (M.ok E);obtain ⟨b,sb,gb,X⟩:=iC lv _ _ L.1.wf Aa E;refine ⟨(Ap ts σ).text::(a++b),(D4 F).trans (N.trans sb),G.cl1 ho Aa O ?_ gb,X⟩;intro t ht;refine ac t ?_;have ad:rem ts (Bu ts n k (Ca op+1) (Ao σ)).2=b++_:=sb;rw [ad];cases b with
       | nil=>cases ht
       | cons u r=>simpa using ht
  . rw [Bf] at E ⊢;split at E
    . rename_i f;rw [AX f];have F:=AM h f Au;have U:=B9 F;obtain ⟨a,N,O⟩:=iU (Ao σ) (Aw F).wf Aa E;exact ⟨_,(D6 h f Au).trans N,G.neg O⟩
    . rename_i f;rw [AC f];split at E
      . rename_i f;rw [AX f];have F:=AM h f Au;have U:=B9 F;obtain ⟨a,N,O⟩:=iU (Ao σ) (Aw F).wf Aa E;exact ⟨_,(D6 h f Au).trans N,G.not O⟩
      . rename_i f;rw [AC f];exact iP σ h Aa E
  . rw [Bj] at E ⊢;split at E
    . rename_i f;rw [AX f];obtain ⟨t,X,h1,L,M,-⟩:=L3 hd h E;refine ⟨[t],X,?_⟩;simp only [L];exact G.num h1 M
    . rename_i f;rw [AC f];split at E
      . rename_i f;rw [AX f];have F:=AM h f Au;have h1:=Aw F;have L:=Aq (n:=n) (t:=[40]) h1.wf Au;have M:=AL (n:=n) L.wf;have h4:=Aq (n:=n) (t:=[41]) M.wf Au;have Y:=h4.ok E;obtain ⟨s3,U⟩:=CL L.wf Y;exact ⟨_,(((D6 h f Au).trans (BW h1.wf Au (M.ok Y))).trans s3).trans (BW M.wf Au E),G.top U⟩
      . rename_i f;rw [AC f];split at E
        . rename_i f;rw [AX f];have F:=AM h f Au;have h1:=Aw F;have L:=Aq (n:=n) (t:=[40]) h1.wf Au;have M:=AL (n:=n) L.wf;have h4:=Aq (n:=n) (t:=[41]) M.wf Au;have Y:=h4.ok E;obtain ⟨s3,U⟩:=CL L.wf Y;exact ⟨_,(((D6 h f Au).trans (BW h1.wf Au (M.ok Y))).trans s3).trans (BW M.wf Au E),G.size U⟩
        . rename_i f;rw [AC f];split at E
          . rename_i f;rw [AX f];have F:=AM h f Au;have U:=B9 F;have h1:=Aw F;have L:=(vE 1 (Ao σ) h1.wf).1;have M:=Aq (n:=n) (t:=[41]) L.wf Au;obtain ⟨a,N,O,-⟩:=iE 1 (Ao σ) h1.wf Aa (M.ok E);exact ⟨_,(D6 h f Au).trans (N.trans (BW L.wf Au E)),G.par O⟩
          . rename_i f;rw [AC f];obtain ⟨a,N,O⟩:=iL σ h Aa E;exact ⟨a,N,G.place O⟩
  . rw [BC] at E ⊢;have h0:=AL (n:=n) h;split at E
    . rename_i f;rw [AX f];have F:=AM h0.wf f Au;have U:=B9 F;have ag:=Bz h0;have h1:=Aw F;have L:=(vE 1 _ h1.wf).1;have M:=Aq (n:=n) (t:=[93]) L.wf Au;obtain ⟨s0,V⟩:=CL h F.1;obtain ⟨a,N,O,-⟩:=iE 1 _ h1.wf Aa (M.ok E);exact ⟨_,s0.trans ((D6 h0.wf f Au).trans (N.trans (BW L.wf Au E))),G.item V O⟩
    . rename_i f;rw [AC f];obtain ⟨s0,V⟩:=CL h E;exact ⟨_,s0,G.var V⟩
end
def G.valid {f:Nt} {a:GV} {x:Nd} (h:G f a x):match f with
 | .cl _ y=>y.isExpr=true->x.isExpr=true
 | .pl=>x.isPlace=true
 | _=>x.isExpr=true:=by
 induction h with
 | ex _ _ F i2=>exact i2 F
 | cl0=>exact fun h=>h
 | @cl1 lv op t a b x y z h1 M N O U i3 i5=>
  intro E;refine i5 ?_;obtain ⟨-,V,L,-⟩:=FA h1;unfold dP;rw [AC Aa,AC Aa,AC Aa,AC Aa,AX Aa];simp only at i3 E;simp [plain,E,i3]
 | neg _ i=>unfold dP;simp only at i;simp [plain,i]
 | not _ i=>unfold dP;simp only at i;simp [plain,i]
 | num=>unfold dP;simp
 | top h=>unfold dP;simp [named,h]
 | size h=>unfold dP;simp [named,h]
 | par _ i=>exact i
 | place _ i=>simp only [Nd.isPlace,Z3] at i;exact i.2
 | var h=>simp [Nd.isPlace,dP,cO,named,h]
 | item h _ i=>simp only at i;simp [Nd.isPlace,dP,cO,named,h,i]
inductive NtS where
 | st:NtS
 | bl:NtS
 | ls:NtS
def L5 (m:lB):Nd:=.mk 2 0 m []
def Ze (l:GV):GV:=l.flatMap fun m=>[[44],m]
def Ie:List (lB×Int):=[([112,117,115,104],44),([112,111,112],45)]
def JU:List (lB×Int):=[([114,101,97,100],46),([117,110,114,101,97,100],47),([119,114,105,116,101],48),([117,110,119,114,105,116,101],49)]
def F1:List (lB×Int):=[([99,97,108,108],50),([117,110,99,97,108,108],51)]
def ED:List (lB×Int×lB×lB):=[([105,102],52,[101,108,115,101],[102,105]),([102,114,111,109],53,[108,111,111,112],[117,110,116,105,108])]
inductive GS:NtS->GV->List Nd->Prop where
 | stack {kw m:lB} {kd:Int} {a:GV} {x:Nd}:(kw,kd)∈Ie->G .pl a x->Bc m=true->GS .st (kw::(a++[[44],m])) [.mk kd 0 m [x]]
 | tape {kw:lB} {kd:Int} {a:GV} {x:Nd}:(kw,kd)∈JU->G .pl a x->GS .st (kw::a) [.mk kd 0 [] [x]]
 | call0 {kw m:lB} {kd:Int}:(kw,kd)∈F1->Bc m=true->GS .st [kw,m,[40],[41]] [.mk kd 0 m []]
 | call1 {kw m u:lB} {kd:Int} {l:GV}:(kw,kd)∈F1->Bc m=true->Bc u=true->(∀v∈l,Bc v=true)->l.length<=7->GS .st (kw::m::[40]::u::(Ze l++[[41]])) [.mk kd 0 m ((u::l).map L5)]
 | branch {kw mid last:lB} {kd:Int} {a b c d:GV} {x y z u:Nd}:(kw,kd,mid,last)∈ED->G (.ex 1) a x->GS .bl b [y]->GS .bl c [z]->G (.ex 1) d u->GS .st (kw::(a++(b++(mid::(c++(last::d)))))) [.mk kd 0 [] [x,y,z,u]]
 | lstack {m:lB} {b:GV} {x:Nd}:Bc m=true->GS .bl b [x]->GS .st ([108,111,99,97,108]::[115,116,97,99,107]::m::b) [.mk 55 0 m [x]]
 | local_ {m:lB} {a b d:GV} {x y z:Nd}:Bc m=true->G (.ex 1) a x->GS .bl b [y]->G (.ex 1) d z->GS .st ([108,111,99,97,108]::m::[61]::(a++(b++([100,101,108,111,99,97,108]::d)))) [.mk 54 0 m [x,y,z]]
 | upd {t:lB} {a b:GV} {x y:Nd}:G .pl a x->CB t≠0->G (.ex 1) b y->GS .st (a++t::b) [.mk (CB t) 0 [] [x,y]]
 | swap {a b:GV} {x y:Nd}:G .pl a x->G .pl b y->GS .st (a++[60,61,62]::b) [.mk 43 0 [] [x,y]]
 | bl {a:GV} {l:List Nd}:GS .ls a l->GS .bl ([123]::(a++[[125]])) [.mk 57 0 [] l]
 | ls0:GS .ls [] []
 | ls1 {a b:GV} {x:Nd} {l:List Nd}:GS .st a [x]->GS .ls b l->GS .ls (a++[59]::b) (x::l)
section
variable {ts:List Tok} {n:Int}
end
section
variable {ts:List Tok} {n:Int}
def Ro {σ:PS} {f:lB} {E:Int} (h:(f,E)∈Ie) (F:(Ap ts σ).text=f) (k:Nat):Bq ts n (k+1) σ=E8 ts n k E σ:=by
 simp only [Ie,aK,bC,aR,or_false] at h;rcases h with ⟨rfl,rfl⟩|⟨rfl,rfl⟩
 . rw [Bq,F,AX rfl]
 . rw [Bq,F,AC Au,AX rfl]
def TG {σ:PS} {E:lB} {F:Int} (h:(E,F)∈JU) (f:(Ap ts σ).text=E) (k:Nat):Bq ts n (k+1) σ=FN ts n k F σ:=by
 simp only [JU,aK,bC,aR,or_false] at h;rcases h with ⟨rfl,rfl⟩|⟨rfl,rfl⟩|⟨rfl,rfl⟩|⟨rfl,rfl⟩
 . rw [Bq,f,AC Au,AC Au,AX rfl]
 . rw [Bq,f,AC Au,AC Au,AC Au,AX rfl]
 . rw [Bq,f,AC Au,AC Au,AC Au,AC Au,AX rfl]
 . rw [Bq,f,AC Au,AC Au,AC Au,AC Au,AC Au,AX rfl]
def TH {σ:PS} {f:lB} {E:Int} (h:(f,E)∈F1) (F:(Ap ts σ).text=f) (k:Nat):Bq ts n (k+1) σ=Fd ts n k E σ:=by
 simp only [F1,aK,bC,aR,or_false] at h;rcases h with ⟨rfl,rfl⟩|⟨rfl,rfl⟩
 . rw [Bq,F,AC Au,AC Au,AC Au,AC Au,AC Au,AC Au,AX rfl]
 . rw [Bq,F,AC Au,AC Au,AC Au,AC Au,AC Au,AC Au,AC Au,AX rfl]
def Qj {σ:PS} {F E f:lB} {L:Int} (h:(F,L,E,f)∈ED) (M:(Ap ts σ).text=F) (k:Nat):Bq ts n (k+1) σ=BI ts n k L E f σ:=by
 simp only [ED,aK,bC,aR,or_false] at h;rcases h with ⟨rfl,rfl,rfl,rfl⟩|⟨rfl,rfl,rfl,rfl⟩
 . rw [Bq,M,AC Au,AC Au,AC Au,AC Au,AC Au,AC Au,AC Au,AC Au,AX rfl]
 . rw [Bq,M,AC Au,AC Au,AC Au,AC Au,AC Au,AC Au,AC Au,AC Au,AC Au,AX rfl]
def Rp {σ:PS} (f:(Ap ts σ).text=[108,111,99,97,108]) (k:Nat):Bq ts n (k+1) σ=Dj ts n k σ:=by
 rw [Bq,f,AC Au,AC Au,AC Au,AC Au,AC Au,AC Au,AC Au,AC Au,AC Au,AC Au,AX rfl]
def TI {F E f:lB} {L:Int} (h:(F,L,E,f)∈ED):E≠[]/\f≠[]:=by
 simp only [ED,aK,bC,aR,or_false] at h;rcases h with ⟨rfl,rfl,rfl,rfl⟩|⟨rfl,rfl,rfl,rfl⟩<;>decide
end
section
variable {ts:List Tok} {n:Int} {I:PS->Prop}
structure Clo (ts:List Tok) (n:Int) (I:PS->Prop):Prop where
 next : ∀ σ,In ts σ->I σ->I (Ao σ)
 unexp : ∀ σ,σ.at_<=ts.length->I σ->I (CO ts n σ)
 full : ∀ σ,In ts σ->I σ->I (Bt σ (Ap ts σ).pos 5)
 range : ∀ σ,In ts σ->I σ->I (Bt (Ao σ) (Ap ts σ).pos 2)
def Clo.expect (C:Clo ts n I) {σ:PS} {t:lB} (h:σ.at_<=ts.length) (ht:t≠[]) (i:I σ):I (Av ts n σ t):=by
 unfold Av;split
 . rename_i hh;exact C.next _ (AM h hh ht) i
 . exact C.unexp _ h i
def Clo.name (C:Clo ts n I) {σ:PS} (h:σ.at_<=ts.length) (i:I σ):I (A2 ts n σ).2:=by
 unfold A2;split
 . rename_i hh;exact C.next _ (B2 h (Z6 (Gh hh))) i
 . exact C.unexp _ h i
def Clo.number (C:Clo ts n I) {a b:Int} {σ:PS} (h:σ.at_<=ts.length) (i:I σ):I (B0 ts n a b σ).2:=by
 unfold B0;split
 . rename_i hh;have hn:=B2 h (aA (by rw [hh];decide));split
   . exact C.next _ hn i
   . exact C.range _ hn i
 . exact C.unexp _ h i
def Clo.exprs (C:Clo ts n I) (k:Nat):(∀lv σ,σ.at_<=ts.length->I σ->I (Bu ts n k lv σ).2)/\(∀lv x σ,σ.at_<=ts.length->I σ->I (BV ts n k lv x σ).2) /\
 (∀ σ,σ.at_<=ts.length->I σ->I (Bf ts n k σ).2)/\(∀ σ,σ.at_<=ts.length->I σ->I (Bj ts n k σ).2)/\(∀ σ,σ.at_<=ts.length->I σ->I (BC ts n k σ).2):=by
 induction k with
 | zero=>
  refine ⟨fun lv σ h i=>?_,fun lv x σ h i=>?_,fun σ h i=>?_,fun σ h i=>?_,fun σ h i=>?_⟩
  . rw [Bu];exact i
  . rw [BV];exact i
  . rw [Bf];exact i
  . rw [Bj];exact i
  . rw [BC];exact i
 | succ k ih=>
  obtain ⟨iE,iC,iU,iP,iL⟩:=ih;obtain ⟨vE,vC,vU,vP,vL⟩:=Ez (ts:=ts) (n:=n) k;refine ⟨fun lv σ h i=>?_,fun lv x σ h i=>?_,fun σ h i=>?_,fun σ h i=>?_,fun σ h i=>?_⟩
  . rw [Bu];exact iC _ _ _ (vU σ h).1.wf (iU _ h i)
  . rw [BV];split
    . exact i
    . rename_i op hop;obtain ⟨hne,-⟩:=FA hop;have hn:=B2 h (Z6 hne);split
      . exact i
      . have h1:=Aw hn;have h2:=vE (Ca op+1) (Ao σ) h1.wf;exact iC _ _ _ h2.1.wf (iE _ _ h1.wf (C.next _ hn i))
  . rw [Bf];split
    . rename_i hh;have hn:=AM h hh Au;exact iU _ (Aw hn).wf (C.next _ hn i)
    . split
      . rename_i hh;have hn:=AM h hh Au;exact iU _ (Aw hn).wf (C.next _ hn i)
      . exact iP _ h i
  . rw [Bj];split
    . exact C.number h i
    . split
      . rename_i hh;have hn:=AM h hh Au;have h1:=Aw hn;have h2:=Aq (n:=n) (t:=[40]) h1.wf Au;have h3:=AL (n:=n) h2.wf;exact C.expect h3.wf Au (C.name h2.wf (C.expect h1.wf Au (C.next _ hn i)))
      . split
        . rename_i hh;have hn:=AM h hh Au;have h1:=Aw hn;have h2:=Aq (n:=n) (t:=[40]) h1.wf Au;have h3:=AL (n:=n) h2.wf;exact C.expect h3.wf Au (C.name h2.wf (C.expect h1.wf Au (C.next _ hn i)))
        . split
          . rename_i hh;have hn:=AM h hh Au;have h1:=Aw hn;exact C.expect (vE 1 _ h1.wf).1.wf Au (iE _ _ h1.wf (C.next _ hn i))
          . exact iL _ h i
  . rw [BC];have h0:=AL (n:=n) h;split
    . rename_i hh;have hn:=AM h0.wf hh Au;have h1:=Aw hn;exact C.expect (vE 1 _ h1.wf).1.wf Au (iE _ _ h1.wf (C.next _ hn (C.name h i)))
    . exact C.name h i
def Clo.expr (C:Clo ts n I) {k:Nat} {lv:Int} {σ:PS} (h:σ.at_<=ts.length) (i:I σ):I (Bu ts n k lv σ).2:=(C.exprs k).1 lv σ h i
def Clo.place (C:Clo ts n I) {k:Nat} {σ:PS} (h:σ.at_<=ts.length) (i:I σ):I (BC ts n k σ).2:=(C.exprs k).2.2.2.2 σ h i
def If {k:Nat} {σ:PS} (h:σ.at_<=ts.length):Le ts σ (BC ts n k σ).2:=((Ez (ts:=ts) (n:=n) k).2.2.2.2 σ h).1
def Clo.args (C:Clo ts n I) (k:Nat) : ∀acc σ,σ.at_<=ts.length->I σ->I (Cx ts n k acc σ).2:=by
 induction k with
 | zero=>intro acc σ h i;rw [Cx];exact i
 | succ k ih=>
  intro acc σ h i;rw [Cx];split
  . rename_i hh;have hn:=AM h hh Au;have h1:=Aw hn;have i1:=C.next _ hn i;split
    . rename_i h8;have l2:=BX (ts:=ts) h1.wf (Ap ts (Ao σ)).pos 5;exact ih _ _ (AL (n:=n) l2.wf).wf (C.name l2.wf (C.full _ (B2 h1.wf (Z6 (Gh h8.2))) i1))
    . exact ih _ _ (AL (n:=n) h1.wf).wf (C.name h1.wf i1)
  . exact i
def Jo (k:Nat) : ∀acc σ,σ.at_<=ts.length->Le ts σ (Cx ts n k acc σ).2:=by
 induction k with
 | zero=>intro acc σ h;rw [Cx];exact dG h
 | succ k E=>
  intro acc σ h;rw [Cx];split
  . rename_i L;have h1:=Aw (AM h L Au);split
    . have F:=h1.trans (BX (ts:=ts) h1.wf (Ap ts (Ao σ)).pos 5);have f:=F.trans (AL (n:=n) F.wf);exact f.trans (E _ _ f.wf)
    . have f:=h1.trans (AL (n:=n) h1.wf);exact f.trans (E _ _ f.wf)
  . exact dG h
def Clo.call (C:Clo ts n I) {k:Nat} {kind:Int} {σ:PS} (h:In ts σ) (i:I σ):I (Fd ts n k kind σ).2:=by
 unfold Fd;have h1:=Aw h;have h2:=AL (n:=n) h1.wf;have h3:=Aq (n:=n) (t:=[40]) h2.wf Au;have i3:=C.expect (t:=[40]) h2.wf Au (C.name h1.wf (C.next _ h i));simp only;split
 . rename_i hh;exact C.next _ (AM h3.wf hh Au) i3
 . have h4:=AL (n:=n) h3.wf;exact C.expect (Jo k _ _ h4.wf).wf Au (C.args k _ _ h4.wf (C.name h3.wf i3))
def Clo.update (C:Clo ts n I) {k:Nat} {σ:PS} (h:σ.at_<=ts.length) (i:I σ):I (Di ts n k σ).2:=by
 unfold Di;have h1:=If (n:=n) (k:=k) h;have i1:=C.place (k:=k) h i;simp only;split
 . rename_i hh;have hn:=AM h1.wf hh Au;exact C.place (Aw hn).wf (C.next _ hn i1)
 . split
   . exact C.unexp _ h1.wf i1
   . rename_i hh;have hn:=B2 h1.wf (Z6 (Lp hh));exact C.expr (Aw hn).wf (C.next _ hn i1)
def Clo.stack (C:Clo ts n I) {k:Nat} {kind:Int} {σ:PS} (h:In ts σ) (i:I σ):I (E8 ts n k kind σ).2:=by
 unfold E8;have h1:=Aw h;have h2:=If (n:=n) (k:=k) h1.wf;have h3:=Aq (n:=n) (t:=[44]) h2.wf Au;exact C.name h3.wf (C.expect h2.wf Au (C.place h1.wf (C.next _ h i)))
def Clo.tape (C:Clo ts n I) {k:Nat} {kind:Int} {σ:PS} (h:In ts σ) (i:I σ):I (FN ts n k kind σ).2:=by
 unfold FN;exact C.place (Aw h).wf (C.next _ h i)
def Clo.stmts (C:Clo ts n I) (k:Nat):(∀ σ,σ.at_<=ts.length->I σ->I (Bq ts n k σ).2)/\(∀kind mid last σ,In ts σ->mid≠[]->last≠[]->I σ->I (BI ts n k kind mid last σ).2)/\(∀ σ,In ts σ->I σ->I (Dj ts n k σ).2) /\
 (∀ σ,σ.at_<=ts.length->I σ->I (Cu ts n k σ).2)/\(∀acc σ,σ.at_<=ts.length->I σ->I (Cz ts n k acc σ).2):=by
 induction k with
 | zero=>
  refine ⟨fun σ h i=>?_,fun kind mid last σ h _ _ i=>?_,fun σ h i=>?_,fun σ h i=>?_,fun acc σ h i=>?_⟩
  . rw [Bq];exact i
  . rw [BI];exact i
  . rw [Dj];exact i
  . rw [Cu];exact i
  . rw [Cz];exact i
 | succ k ih=>
  obtain ⟨iS,iB,iL,iK,iT⟩:=ih;obtain ⟨vS,vB,vL,vK,vT⟩:=DG (ts:=ts) (n:=n) k;refine ⟨fun σ h i=>?_,fun kind mid last σ hn hmid hlast i=>?_,fun σ hn i=>?_,fun σ h i=>?_,fun acc σ h i=>?_⟩
  . rw [Bq];have hin : ∀t:lB,t≠[]->(Ap ts σ).text=t->In ts σ:=fun t ht e=>B2 h (Z6 (by rw [e];exact ht))
    by_cases c:(Ap ts σ).text=[112,117,115,104]
    . rw [AX c];exact C.stack (hin _ Au c) i
    rw [AC c];clear c;by_cases c:(Ap ts σ).text=[112,111,112]
    . rw [AX c];exact C.stack (hin _ Au c) i
    rw [AC c];clear c;by_cases c:(Ap ts σ).text=[114,101,97,100]
    . rw [AX c];exact C.tape (hin _ Au c) i
    rw [AC c];clear c;by_cases c:(Ap ts σ).text=[117,110,114,101,97,100]
    . rw [AX c];exact C.tape (hin _ Au c) i
    rw [AC c];clear c;by_cases c:(Ap ts σ).text=[119,114,105,116,101]
    . rw [AX c];exact C.tape (hin _ Au c) i
    rw [AC c];clear c;by_cases c:(Ap ts σ).text=[117,110,119,114,105,116,101]
    . rw [AX c];exact C.tape (hin _ Au c) i
    rw [AC c];clear c;by_cases c:(Ap ts σ).text=[99,97,108,108]
    . rw [AX c];exact C.call (hin _ Au c) i
    rw [AC c];clear c;by_cases c:(Ap ts σ).text=[117,110,99,97,108,108]
    . rw [AX c];exact C.call (hin _ Au c) i
    rw [AC c];clear c;by_cases c:(Ap ts σ).text=[105,102]
    . rw [AX c];exact iB _ _ _ _ (hin _ Au c) Au Au i
    rw [AC c];clear c;by_cases c:(Ap ts σ).text=[102,114,111,109]
    . rw [AX c];exact iB _ _ _ _ (hin _ Au c) Au Au i
    rw [AC c];clear c;by_cases c:(Ap ts σ).text=[108,111,99,97,108]
    . rw [AX c];exact iL _ (hin _ Au c) i
    rw [AC c];clear c;exact C.update h i
  . rw [BI];have h1:=Aw hn;have h2:=Dm (n:=n) (k:=k) (lv:=1) h1.wf;have h3:=vK _ h2.wf;have h4:=Aq (n:=n) (t:=mid) h3.wf hmid;have h5:=vK _ h4.wf;have h6:=Aq (n:=n) (t:=last) h5.wf hlast;exact C.expr h6.wf (C.expect h5.wf hlast (iK _ h4.wf (C.expect h3.wf hmid (iK _ h2.wf (C.expr h1.wf (C.next _ hn i))))))
  . rw [Dj];have h1:=Aw hn;have i1:=C.next _ hn i;split
    . rename_i hh;have a:=AM h1.wf hh Au;have h2:=Aw a;exact iK _ (AL (n:=n) h2.wf).wf (C.name h2.wf (C.next _ a i1))
    . have h2:=AL (n:=n) h1.wf;have h3:=Aq (n:=n) (t:=[61]) h2.wf Au;have h4:=Dm (n:=n) (k:=k) (lv:=1) h3.wf;have h5:=vK _ h4.wf;have h6:=Aq (n:=n) (t:=[100,101,108,111,99,97,108]) h5.wf Au;exact C.expr h6.wf (C.expect h5.wf Au (iK _ h4.wf (C.expr h3.wf (C.expect h2.wf Au (C.name h1.wf i1)))))
  . rw [Cu];exact iT _ _ (Aq (n:=n) (t:=[123]) h Au).wf (C.expect h Au i)
  . rw [Cz];split
    . exact i
    . split
      . rename_i hh;exact C.next _ (AM h hh Au) i
      . have h1:=vS _ h;exact iT _ _ (Aq (n:=n) (t:=[59]) h1.wf Au).wf (C.expect h1.wf Au (iS _ h i))
def Clo.decl (C:Clo ts n I) {σ:PS} (h:σ.at_<=ts.length) (i:I σ):I (Br ts n σ).2:=by
 unfold Br;split
 . rename_i hh;have hn:=AM h hh Au;exact C.name (Aw hn).wf (C.next _ hn i)
 . split
   . rename_i hh;have hn:=AM h hh Au;exact C.name (Aw hn).wf (C.next _ hn i)
   . split
     . rename_i hh;have hn:=AM h hh Au;have h1:=Aw hn;have h2:=AL (n:=n) h1.wf;have h3:=Aq (n:=n) (t:=[91]) h2.wf Au;have h4:=Fk (n:=n) (a:=1) (b:=16) h3.wf;exact C.expect h4.wf Au (C.number h3.wf (C.expect h2.wf Au (C.name h1.wf (C.next _ hn i))))
     . exact C.unexp _ h i
def Nh {σ:PS} (h:σ.at_<=ts.length) (f:Cd ts σ=true):In ts σ:=by
 simp only [Cd,Bool.or_eq_true] at f;rcases f with (c|c)|c<;>exact AM h c Au
def Clo.params (C:Clo ts n I) (k:Nat) : ∀acc σ,σ.at_<=ts.length->I σ->I (Bi ts n k acc σ).2:=by
 induction k with
 | zero=>intro acc σ h i;rw [Bi];exact i
 | succ k ih=>
  intro acc σ h i;rw [Bi];split
  . rename_i hh;have hn:=AM h hh Au;have h1:=Aw hn;have i1:=C.next _ hn i;simp only;split
    . rename_i h8;have l2:=BX (ts:=ts) h1.wf (Ap ts (Ao σ)).pos 5;exact ih _ _ (Cl (n:=n) l2.wf).wf (C.decl l2.wf (C.full _ (Nh h1.wf h8.2) i1))
    . exact ih _ _ (Cl (n:=n) h1.wf).wf (C.decl h1.wf i1)
  . exact i
structure CloL (ts:List Tok) (n:Int) (I:PS->Prop):Prop extends Clo ts n I where
 lim : ∀ σ x τ,σ.at_<=ts.length->I σ->I τ->I (DV x (Ap ts σ).pos τ)
def CloL.body (C:CloL ts n I) {k:Nat} {σ:PS} (h:σ.at_<=ts.length) (i:I σ):I (EG ts n k σ).2:=by
 unfold EG;exact C.lim _ _ _ h i ((C.toClo.stmts k).2.2.2.1 _ h i)
def CloL.proc (C:CloL ts n I) {k:Nat} {σ:PS} (h:σ.at_<=ts.length) (i:I σ):I (C8 ts n k σ).2:=by
 rw [FF];have h1:=Aq (n:=n) (t:=[112,114,111,99]) h Au;have h2:=AL (n:=n) h1.wf;have h3:=Aq (n:=n) (t:=[40]) h2.wf Au;have i3:=C.expect (t:=[40]) h2.wf Au (C.name h1.wf (C.expect (t:=[112,114,111,99]) h Au i));have h4:=FE (n:=n) (k:=k) h3.wf;refine C.body h4.wf ?_;unfold FQ;split
 . rename_i hh;exact C.next _ (AM h3.wf hh Au) i3
 . have h5:=Cl (n:=n) h3.wf;exact C.expect (EM (n:=n) k _ _ h5.wf).wf Au (C.params k _ _ h5.wf (C.decl h3.wf i3))
def CloL.vars (C:CloL ts n I) (k:Nat) : ∀acc σ,σ.at_<=ts.length->I σ->I (Dd ts n k acc σ).2:=by
 induction k with
 | zero=>intro acc σ h i;rw [Dd];exact i
 | succ k f=>
  intro acc σ h i;rw [Dd];split
  . rename_i F;simp only;split
    . have E:=BX (ts:=ts) h (Ap ts σ).pos 5;exact f _ _ (Cl (n:=n) E.wf).wf (C.decl E.wf (C.full _ (Nh h F) i))
    . exact f _ _ (Cl (n:=n) h).wf (C.decl h i)
  . exact i
def CloL.procs (C:CloL ts n I) (k:Nat) : ∀acc σ,σ.at_<=ts.length->I σ->I (B4 ts n k acc σ).2:=by
 induction k with
 | zero=>intro acc σ h i;rw [B4];exact i
 | succ k f=>
  intro acc σ h i;rw [B4];split
  . rename_i F;simp only;split
    . have E:=BX (ts:=ts) h (Ap ts σ).pos 5;exact f _ _ (DH (n:=n) (k:=k) E.wf).wf (C.proc E.wf (C.full _ (AM h F Au) i))
    . exact f _ _ (DH (n:=n) (k:=k) h).wf (C.proc h i)
  . exact i
def CloL.program (C:CloL ts n I) {k:Nat} {σ:PS} (h:σ.at_<=ts.length) (i:I σ):I (BE ts n k σ).2:=by
 unfold BE;have h1:=GT (n:=n) k [] σ h;have f:=DI (n:=n) k [] _ h1.wf;exact C.body (Aq (n:=n) (t:=[109,97,105,110]) f.wf Au).wf (C.expect f.wf Au (C.procs k _ _ h1.wf (C.vars k _ _ h i)))
def Clo.finish (C:Clo ts n I) {σ:PS} (h:σ.at_<=ts.length) (i:I σ):I (Dz ts n σ):=by
 unfold Dz;split
 . exact C.unexp _ h i
 . exact i
end
section
variable {ts:List Tok} {n:Int}
def Rq (k:Nat) : ∀(acc:List Nd) (σ:PS),σ.at_<=ts.length->acc.length<=8->(Cx ts n k acc σ).2.err=0 -> ∃l:GV,Seg ts σ (Cx ts n k acc σ).2 (Ze l)/\(∀v∈l,Bc v=true)/\(Cx ts n k acc σ).1=acc++l.map L5/\acc.length+l.length<=8:=by
 induction k with
 | zero=>intro acc σ h M f;rw [Cx];exact ⟨[],Seg.refl _,Bn,Bn,by simpa using M⟩
 | succ k X=>
  intro acc σ h M f;rw [Cx] at f ⊢;split at f
  . rename_i E;rw [AX E];have Y:=AM h E Au;have h1:=Aw Y;by_cases c:acc.length=8/\Bc (Ap ts (Ao σ)).text=true
    . rw [AX c] at f;exfalso;have Z:=BX (ts:=ts) h1.wf (Ap ts (Ao σ)).pos 5;have F:=AL (n:=n) Z.wf;exact absurd ((F.trans (Jo k _ _ F.wf)).ok f) (DF Au)
    . rw [AC c] at f ⊢;have F:=AL (n:=n) h1.wf;have e3:=(Jo (n:=n) k (acc++[(Do ts n (Ao σ)).1]) _ F.wf).ok f;obtain ⟨s3,L⟩:=CL h1.wf e3;have aa:acc.length<8:=by
       rcases aL acc.length 8 with V|V
       . exact V
       . exfalso;refine c ⟨Aa,?_⟩;unfold A2 at L;split at L
         . assumption
         . have N:Bc []=true:=L;exact absurd N Au
      obtain ⟨l,sl,hl,hr,O⟩:=X (acc++[(Do ts n (Ao σ)).1]) (Do ts n (Ao σ)).2 F.wf (by simp only [ZZ,Z1,Z4];omega) f;refine ⟨(A2 ts n (Ao σ)).1::l,?_,?_,?_,?_⟩
      . exact ((D6 h E Au).trans s3).trans sl
      . intro v U;rcases aK.1 U with rfl|U
        . exact L
        . exact hl v U
      . rw [hr];simp [Do,L5]
      . simp only [ZZ,Z1,Z4] at O ⊢;omega
  . rename_i E;rw [AC E];exact ⟨[],Seg.refl _,Bn,Bn,by simpa using M⟩
def Rr {k:Nat} {kw:lB} {N:Int} {σ:PS} (F:(kw,N)∈F1) (hp:(Ap ts σ).text=kw) (h:In ts σ) (f:(Fd ts n k N σ).2.err=0) : ∃a,Seg ts σ (Fd ts n k N σ).2 a/\GS .st a [(Fd ts n k N σ).1]:=by
 have h1:=Aw h;have O:=AL (n:=n) h1.wf;have E:=Aq (n:=n) (t:=[40]) O.wf Au;have U:=D4 h;rw [hp] at U;unfold Fd at f ⊢;simp only at f ⊢;split at f
 . rename_i L;rw [AX L];have M:=(Aw (AM E.wf L Au)).ok f;obtain ⟨V,X⟩:=CL h1.wf (E.ok M);exact ⟨_,((U.trans V).trans (BW O.wf Au M)).trans (D6 E.wf L Au),GS.call0 F X⟩
 . rename_i L;rw [AC L];have Y:=AL (n:=n) E.wf;have Z:=Jo (n:=n) k [(Do ts n (Av ts n (A2 ts n (Ao σ)).2 [40])).1] _ Y.wf;have e5:=(Aq (n:=n) (t:=[41]) Z.wf Au).ok f;have e4:=Z.ok e5;have M:=Y.ok e4;obtain ⟨V,X⟩:=CL h1.wf (E.ok M);obtain ⟨s4,hu⟩:=CL E.wf e4;obtain ⟨l,sl,hl,hr,h8⟩:=Rq (n:=n) k _ _ Y.wf Bn e5;refine ⟨_,U.trans (V.trans ((BW O.wf Au M).trans (s4.trans (sl.trans (BW Z.wf Au f))))),?_⟩;have aa:(Cx ts n k [(Do ts n (Av ts n (A2 ts n (Ao σ)).2 [40])).1] (Do ts n (Av ts n (A2 ts n (Ao σ)).2 [40])).2).1=((A2 ts n (Av ts n (A2 ts n (Ao σ)).2 [40])).1::l).map L5:=hr.trans (by simp [Do,L5]);rw [aa];exact GS.call1 F X hu hl (by simp only [Z1,Z4] at h8;omega)
def E4 (f:BD ts) {k:Nat} {σ:PS} (h:σ.at_<=ts.length) (E:4*mS ts σ+1<=k) (F:(BC ts n k σ).2.err=0) : ∃a,Seg ts σ (BC ts n k σ).2 a/\G .pl a (BC ts n k σ).1:=(L4 f k).2.2.2.2 σ h E F
def Hs (f:BD ts) {k:Nat} {lv:Int} {σ:PS} (h:σ.at_<=ts.length) (E:4*mS ts σ+4<=k) (F:(Bu ts n k lv σ).2.err=0) : ∃a,Seg ts σ (Bu ts n k lv σ).2 a/\G (.ex lv) a (Bu ts n k lv σ).1:=by
 obtain ⟨a,h1,L,-⟩:=(L4 f k).1 lv σ h E F;exact ⟨a,h1,L⟩
def Ok (L:BD ts) {k:Nat} {σ:PS} (h:σ.at_<=ts.length) (X:4*mS ts σ+1<=k) (E:(Di ts n k σ).2.err=0) : ∃a,Seg ts σ (Di ts n k σ).2 a/\GS .st a [(Di ts n k σ).1]:=by
 have h1:=If (n:=n) (k:=k) h;have Z:=Bz h1;unfold Di at E ⊢;simp only at E ⊢;split at E
 . rename_i F;rw [AX F];have f:=AM h1.wf F Au;have Y:=B9 f;obtain ⟨a,M,N⟩:=E4 L h X f.1;obtain ⟨b,O,U⟩:=E4 L (Aw f).wf Aa E;exact ⟨_,M.trans ((D6 h1.wf F Au).trans O),GS.swap N U⟩
 . rename_i F;rw [AC F];split at E
   . exact absurd E Ef
   . rename_i V;rw [AC V];have f:=B2 h1.wf (Z6 (Lp V));have Y:=B9 f;obtain ⟨a,M,N⟩:=E4 L h X f.1;obtain ⟨b,O,U⟩:=Hs L (Aw f).wf Aa E;exact ⟨_,M.trans ((D4 f).trans O),GS.upd N V U⟩
def Rs {σ σ':PS} (h:Le ts σ σ') (k:Lt σ σ') (e:σ'.err=0):mS ts σ'+1<=mS ts σ:=by
 have f:=h.ok e;have h1:=k e;have E:=h.wf;unfold mS;rw [AX e,AX f];omega
def Sq {k:Nat} {lv:Int} {σ:PS} (h:σ.at_<=ts.length) (f:4<=k):mS ts (Bu ts n k lv σ).2+1<=mS ts σ\/mS ts (Bu ts n k lv σ).2=0:=by
 have:=(Ez (ts:=ts) (n:=n) k).1 lv σ h;exact R7 this.1 (this.2 f)
def Ni {σ:PS} {t:lB} (h:σ.at_<=ts.length) (f:t≠[]):mS ts (Av ts n σ t)+1<=mS ts σ\/mS ts (Av ts n σ t)=0:=R7 (Aq h f) Dv
def L6 (hd:BD ts) (k:Nat) :
 (∀ σ,σ.at_<=ts.length->4*mS ts σ+6<=k->(Bq ts n k σ).2.err=0 -> ∃a,Seg ts σ (Bq ts n k σ).2 a/\GS .st a [(Bq ts n k σ).1]) /\
 (∀L V M E σ,(L,V,M,E)∈ED->(Ap ts σ).text=L->In ts σ->4*mS ts σ+5<=k->(BI ts n k V M E σ).2.err=0 -> ∃a,Seg ts σ (BI ts n k V M E σ).2 a/\GS .st a [(BI ts n k V M E σ).1]) /\
 (∀ σ,(Ap ts σ).text=[108,111,99,97,108]->In ts σ->4*mS ts σ+5<=k->(Dj ts n k σ).2.err=0 -> ∃a,Seg ts σ (Dj ts n k σ).2 a/\GS .st a [(Dj ts n k σ).1]) /\
 (∀ σ,σ.at_<=ts.length->4*mS ts σ+8<=k->(Cu ts n k σ).2.err=0 -> ∃a,Seg ts σ (Cu ts n k σ).2 a/\GS .bl a [(Cu ts n k σ).1]) /\
 (∀acc σ,σ.at_<=ts.length->4*mS ts σ+7<=k->(Cz ts n k acc σ).2.err=0 -> ∃a l,Seg ts σ (Cz ts n k acc σ).2 (a++[[125]])/\GS .ls a l/\(Cz ts n k acc σ).1=acc++l):=by
 induction k with
 | zero=>refine ⟨fun _ _ h=>?_,fun _ _ _ _ _ _ _ _ h=>?_,fun _ _ _ h=>?_,fun _ _ h=>?_,fun _ _ _ h=>?_⟩<;>omega
 | succ k ih=>
  obtain ⟨iS,iB,iL,iK,iT⟩:=ih;obtain ⟨vS,vB,vL,vK,vT⟩:=DG (ts:=ts) (n:=n) k;refine ⟨fun σ h hk f=>?_,fun L V M E σ F O X hk f=>?_,fun σ O X hk f=>?_,fun σ h hk f=>?_,fun acc σ h hk f=>?_⟩
  . have aa : ∀t:lB,t≠[]->(Ap ts σ).text=t->In ts σ:=fun t ht e=>B2 h (Z6 (by rw [e];exact ht))
    have af : ∀L V,(L,V)∈Ie->L≠[]->(Ap ts σ).text=L -> ∃a,Seg ts σ (Bq ts n (k+1) σ).2 a/\GS .st a [(Bq ts n (k+1) σ).1]:=by
     intro L V F Y O;have X:=aa L Y O;have m1:=B9 X;rw [Ro F O] at f ⊢;have Z:=D4 X;rw [O] at Z;unfold E8 at f ⊢;simp only at f ⊢;have h1:=Aw X;have U:=If (n:=n) (k:=k) h1.wf;have N:=Aq (n:=n) (t:=[44]) U.wf Au;have h4:=AL (n:=n) N.wf;have e3:=h4.ok f;obtain ⟨a,sa,ga⟩:=E4 hd h1.wf Aa (N.ok e3);obtain ⟨s4,hm⟩:=CL N.wf f;exact ⟨_,Z.trans (sa.trans ((BW U.wf Au e3).trans s4)),GS.stack F ga hm⟩
    have ac : ∀L V,(L,V)∈JU->L≠[]->(Ap ts σ).text=L -> ∃a,Seg ts σ (Bq ts n (k+1) σ).2 a/\GS .st a [(Bq ts n (k+1) σ).1]:=by
     intro L V F Y O;have X:=aa L Y O;have m1:=B9 X;rw [TG F O] at f ⊢;have Z:=D4 X;rw [O] at Z;unfold FN at f ⊢;simp only at f ⊢;have h1:=Aw X;obtain ⟨a,sa,ga⟩:=E4 hd h1.wf Aa f;exact ⟨_,Z.trans sa,GS.tape F ga⟩
    have ag : ∀L V,(L,V)∈F1->L≠[]->(Ap ts σ).text=L -> ∃a,Seg ts σ (Bq ts n (k+1) σ).2 a/\GS .st a [(Bq ts n (k+1) σ).1]:=by
     intro L V F Y O;rw [TH F O] at f ⊢;exact Rr F O (aa L Y O) f
    have ah : ∀L V M E,(L,V,M,E)∈ED->L≠[]->(Ap ts σ).text=L -> ∃a,Seg ts σ (Bq ts n (k+1) σ).2 a/\GS .st a [(Bq ts n (k+1) σ).1]:=by
     intro L V M E F Y O;rw [Qj F O] at f ⊢;exact iB L V M E σ F O (aa L Y O) Aa f
    by_cases c:(Ap ts σ).text=[112,117,115,104]
    . exact af _ 44 Au Au c
    by_cases c2:(Ap ts σ).text=[112,111,112]
    . exact af _ 45 Au Au c2
    by_cases c3:(Ap ts σ).text=[114,101,97,100]
    . exact ac _ 46 Au Au c3
    by_cases c4:(Ap ts σ).text=[117,110,114,101,97,100]
    . exact ac _ 47 Au Au c4
    by_cases c5:(Ap ts σ).text=[119,114,105,116,101]
    . exact ac _ 48 Au Au c5
    by_cases c6:(Ap ts σ).text=[117,110,119,114,105,116,101]
    . exact ac _ 49 Au Au c6
    by_cases c7:(Ap ts σ).text=[99,97,108,108]
    . exact ag _ 50 Au Au c7
    by_cases c8:(Ap ts σ).text=[117,110,99,97,108,108]
    . exact ag _ 51 Au Au c8
    by_cases c9:(Ap ts σ).text=[105,102]
    . exact ah _ 52 [101,108,115,101] [102,105] Au Au c9
    by_cases ai:(Ap ts σ).text=[102,114,111,109]
    . exact ah _ 53 [108,111,111,112] [117,110,116,105,108] Au Au ai
    by_cases ad:(Ap ts σ).text=[108,111,99,97,108]
    . rw [Rp ad] at f ⊢;exact iL σ ad (aa _ Au ad) Aa f
    have e:Bq ts n (k+1) σ=Di ts n k σ:=by
     rw [Bq,AC c,AC c2,AC c3,AC c4,AC c5,AC c6,AC c7,AC c8,AC c9,AC ai,AC ad]
    rw [e] at f ⊢;exact Ok hd h Aa f
  . rw [BI] at f ⊢;obtain ⟨ae,ab⟩:=TI F;have Z:=D4 X;rw [O] at Z;have m0:=B9 X;have h1:=Aw X;have U:=Dm (n:=n) (k:=k) (lv:=1) h1.wf;have m2:=Sq (n:=n) (k:=k) (lv:=1) h1.wf Aa;have N:=vK _ U.wf;have m3:=Bz N;have h4:=Aq (n:=n) (t:=M) N.wf ae;have m4:=Bz h4;have h5:=vK _ h4.wf;have m5:=Bz h5;have h6:=Aq (n:=n) (t:=E) h5.wf ab;have m6:=Bz h6;have h7:=Dm (n:=n) (k:=k) (lv:=1) h6.wf;simp only at f ⊢;have e6:=h7.ok f;have e5:=h6.ok e6;have e4:=h5.ok e5;have e3:=h4.ok e4;have e2:=N.ok e3;obtain ⟨a,sa,ga⟩:=Hs hd h1.wf Aa e2;obtain ⟨b,sb,gb⟩:=iK _ U.wf Aa e3;obtain ⟨c,sc,gc⟩:=iK _ h4.wf Aa e5;obtain ⟨d,sd,gd⟩:=Hs hd h6.wf Aa f;exact ⟨_,Z.trans (sa.trans (sb.trans ((BW N.wf ae e4).trans (sc.trans ((BW h5.wf ab e6).trans sd))))),GS.branch F ga gb gc gd⟩
  . rw [Dj] at f ⊢;have Z:=D4 X;rw [O] at Z;have m0:=B9 X;have h1:=Aw X;split at f
    . rename_i hh;rw [AX hh];have aj:=AM h1.wf hh Au;have m1:=B9 aj;have U:=Aw aj;have N:=AL (n:=n) U.wf;have m3:=Bz N;have h4:=vK _ N.wf;simp only at f ⊢;obtain ⟨s3,hm⟩:=CL U.wf (h4.ok f);obtain ⟨b,sb,gb⟩:=iK _ N.wf Aa f;exact ⟨_,Z.trans ((D6 h1.wf hh Au).trans (s3.trans sb)),GS.lstack hm gb⟩
    . rename_i hh;rw [AC hh];have U:=AL (n:=n) h1.wf;have m2:=Bz U;have N:=Aq (n:=n) (t:=[61]) U.wf Au;have m3:=Bz N;have h4:=Dm (n:=n) (k:=k) (lv:=1) N.wf;have m4:=Sq (n:=n) (k:=k) (lv:=1) N.wf Aa;have h5:=vK _ h4.wf;have m5:=Bz h5;have h6:=Aq (n:=n) (t:=[100,101,108,111,99,97,108]) h5.wf Au;have m6:=Bz h6;have h7:=Dm (n:=n) (k:=k) (lv:=1) h6.wf;simp only at f ⊢;have e6:=h7.ok f;have e5:=h6.ok e6;have e4:=h5.ok e5;have e3:=h4.ok e4;have e2:=N.ok e3;obtain ⟨s2,hm⟩:=CL h1.wf e2;obtain ⟨a,sa,ga⟩:=Hs hd N.wf Aa e4;obtain ⟨b,sb,gb⟩:=iK _ h4.wf Aa e5;obtain ⟨d,sd,gd⟩:=Hs hd h6.wf Aa f;exact ⟨_,Z.trans (s2.trans ((BW U.wf Au e3).trans (sa.trans (sb.trans ((BW h5.wf Au e6).trans sd))))),GS.local_ hm ga gb gd⟩
  . rw [Cu] at f ⊢;have h1:=Aq (n:=n) (t:=[123]) h Au;have m1:=Ni (n:=n) (t:=[123]) h Au;have U:=vT [] _ h1.wf;simp only at f ⊢;obtain ⟨a,l,sa,ga,hl⟩:=iT [] _ h1.wf Aa f;refine ⟨_,(BW h Au (U.ok f)).trans sa,?_⟩;rw [hl];exact GS.bl ga
  . rw [Cz] at f ⊢;split at f
    . exact absurd f Ag
    . rename_i h0;rw [AC h0];split at f
      . rename_i hh;rw [AX hh];exact ⟨[],[],D6 h hh Au,GS.ls0,Bn⟩
      . rename_i hh;rw [AC hh];have h1:=vS σ h;have m1:=Bz h1;have U:=Aq (n:=n) (t:=[59]) h1.wf Au;have m2:=Ni (n:=n) (t:=[59]) h1.wf Au;have N:=vT (acc++[(Bq ts n k σ).1]) _ U.wf;have e2:=N.ok f;have m3:=Rs U Dv e2;obtain ⟨a,sa,ga⟩:=iS σ h Aa (U.ok e2);obtain ⟨b,l,sb,gb,hl⟩:=iT _ _ U.wf Aa f;refine ⟨a++[59]::b,(Bq ts n k σ).1::l,?_,GS.ls1 ga gb,by rw [hl];simp⟩;have:=sa.trans ((BW h1.wf Au e2).trans sb);simpa using this
end
def TJ (l:GV) (h : ∀v∈l,Bc v=true):(l.map L5).all Nd.isVar=true:=by
 rw [bR];intro x f;obtain ⟨v,E,rfl⟩:=List.mem_map.1 f;simp [L5,Nd.isVar,dP,cO,named,h v E]
def GS.valid {O:NtS} {a:GV} {l:List Nd} (h:GS O a l):match O with
 | .st=> ∀x,l=[x]->x.isStmt=true
 | .bl=> ∀x,l=[x]->x.isBlock=true
 | .ls=>DN l=true:=by
 induction h with
 | stack h1 f E=>
  rintro x ⟨⟩;have:=f.valid;simp only [Ie,aK,bC,aR,or_false] at h1;rcases h1 with ⟨-,rfl⟩|⟨-,rfl⟩<;>(unfold dN;simp only at this;simp [named,E,this])
 | tape h1 f=>
  rintro x ⟨⟩;have:=f.valid;simp only [JU,aK,bC,aR,or_false] at h1;rcases h1 with ⟨-,rfl⟩|⟨-,rfl⟩|⟨-,rfl⟩|⟨-,rfl⟩<;>(unfold dN;simp only at this;simp [plain,this])
 | call0 h1 f=>
  rintro x ⟨⟩;simp only [F1,aK,bC,aR,or_false] at h1;rcases h1 with ⟨-,rfl⟩|⟨-,rfl⟩<;>(unfold dN;simp [named,f])
 | @call1 Z m u kd l h1 f E M U=>
  rintro x ⟨⟩;have F:=TJ (u::l) (fun v F=>by rcases aK.1 F with rfl|F;exact E;exact M v F);have X:((u::l).map L5).length<=8:=by simp only [List.length_map,Z1];omega
  simp only [F1,aK,bC,aR,or_false] at h1;generalize (u::l).map L5=q at *;rcases h1 with ⟨-,rfl⟩|⟨-,rfl⟩<;>(unfold dN;simp [named,f,X,F])
 | branch h1 f E M U i3 i4=>
  rintro x ⟨⟩;have v2:=f.valid;have v5:=U.valid;have v3:=i3 _ rfl;have v4:=i4 _ rfl;simp only [ED,aK,bC,aR,or_false] at h1;simp only at v2 v5;rcases h1 with ⟨-,rfl,-⟩|⟨-,rfl,-⟩<;>(unfold dN;simp [plain,v2,v3,v4,v5])
 | lstack h1 f i2=>
  rintro x ⟨⟩;have v2:=i2 _ rfl;unfold dN;simp [named,h1,v2]
 | local_ h1 f E M i3=>
  rintro x ⟨⟩;have v2:=f.valid;have v3:=i3 _ rfl;have v4:=M.valid;simp only at v2 v4;unfold dN;simp [named,h1,v2,v3,v4]
 | @upd t a b x y h1 f E=>
  rintro z ⟨⟩;have L:=h1.valid;have v3:=E.valid;simp only at L v3;have Y:CB t=40\/CB t=41\/CB t=42\/CB t=56:=by
   unfold CB at f ⊢;by_cases V:t=[43,61]
   . simp [V]
   by_cases c2:t=[45,61]
   . simp [c2]
   by_cases c3:t=[94,61]
   . simp [c3]
   by_cases c4:t=[58,61]
   . simp [c4]
   simp [V,c2,c3,c4] at f
  unfold dN;rw [AX Y];simp [plain,L,v3]
 | swap h1 f=>
  rintro x ⟨⟩;have L:=h1.valid;have v2:=f.valid;simp only at L v2;unfold dN;simp [plain,L,v2]
 | bl h1 N=>
  rintro x ⟨⟩;simp only at N;unfold Nd.isBlock;simp [plain,N]
 | ls0=>simp [DN]
 | ls1 h1 f N i2=>
  have:=N _ rfl;simp only at i2;simp only [DN,this,i2,Bool.and_self]
section
variable {ts:List Tok} {n:Int}
def Jp {x:Nd} {off:Int} {σ:PS} (h:(DV x off σ).err=0):σ.err=0/\x.depth<=80/\x.size<=2000:=by
 unfold DV at h;split at h
 . exact absurd h Ag
 . rename_i E;have f:σ.err=0:=by simpa using E
   split at h
   . exact absurd h (DF Au)
   . split at h
     . exact absurd h (DF Au)
     . exact ⟨f,Aa,Aa⟩
def Ru (k:Nat) : ∀(acc:List VD) (σ:PS),σ.at_<=ts.length->(Dd ts n k acc σ).2.err=0->acc.length<=32->(Dd ts n k acc σ).1.length<=32:=by
 induction k with
 | zero=>intro acc σ h f L;rw [Dd];exact L
 | succ k N=>
  intro acc σ h f L;rw [Dd] at f ⊢;split at f
  . rename_i M;rw [AX M];simp only at f ⊢;by_cases E:acc.length=32
    . rw [AX E] at f;have O:=BX (ts:=ts) h (Ap ts σ).pos 5;have F:=Cl (n:=n) O.wf;exact absurd ((F.trans (GT k _ _ F.wf)).ok f) (DF Au)
    . rw [AC E] at f ⊢;have F:=Cl (n:=n) h;exact N _ _ F.wf f (by simp only [ZZ,Z1,Z4];omega)
  . rename_i M;rw [AC M];exact L
def Ol (k:Nat) : ∀(acc:List VD) (σ:PS),σ.at_<=ts.length->(Bi ts n k acc σ).2.err=0->acc.length<=8->(Bi ts n k acc σ).1.length<=8:=by
 induction k with
 | zero=>intro acc σ h f M;rw [Bi];exact M
 | succ k U=>
  intro acc σ h f M;rw [Bi] at f ⊢;split at f
  . rename_i F;rw [AX F];simp only at f ⊢;have O:=Aw (AM h F Au);by_cases N:acc.length=8/\Cd ts (Ao σ)=true
    . rw [AX N] at f;have V:=BX (ts:=ts) O.wf (Ap ts (Ao σ)).pos 5;have E:=Cl (n:=n) V.wf;exact absurd ((E.trans (EM k _ _ E.wf)).ok f) (DF Au)
    . rw [AC N] at f ⊢;have E:=Cl (n:=n) O.wf;by_cases X:acc.length=8
      . have L:Cd ts (Ao σ)=false:=by
         cases hh:Cd ts (Ao σ)
         . rfl
         . exact absurd ⟨X,hh⟩ N
        have Y:(Br ts n (Ao σ)).2.err≠0:=by
         simp only [Cd,Bool.or_eq_false_iff] at L;unfold Br;rw [AC (by simp [L.1.1]),AC (by simp [L.2]),AC (by simp [L.1.2])];exact Ef
        exact absurd ((EM k _ _ E.wf).ok f) Y
      . exact U _ _ E.wf f (by simp only [ZZ,Z1,Z4];omega)
  . rename_i F;rw [AC F];exact M
def Kt {k:Nat} {σ:PS} (h:σ.at_<=ts.length) (f:(C8 ts n k σ).2.err=0):(C8 ts n k σ).1.params.length<=8/\(C8 ts n k σ).1.body.size<=2000:=by
 rw [FF] at f ⊢;simp only at f ⊢;have L:=Aq (n:=n) (t:=[112,114,111,99]) h Au;have M:=L.trans (AL (n:=n) L.wf);have N:=M.trans (Aq (n:=n) (t:=[40]) M.wf Au);generalize Av ts n (A2 ts n (Av ts n σ [112,114,111,99])).2 [40]=V at *;have X:=FE (n:=n) (k:=k) N.wf;unfold EG at f ⊢;simp only at f ⊢;have O:=Jp f;refine ⟨?_,O.2.2⟩;have E:=((DG (ts:=ts) (n:=n) k).2.2.2.1 _ X.wf).ok O.1;unfold FQ at E ⊢;split at E
 . rename_i F;rw [AX F];exact aE _
 . rename_i F;rw [AC F];simp only at E ⊢;have U:=Cl (n:=n) N.wf;have Y:=EM (n:=n) k [(Br ts n V).1] _ U.wf;exact Ol k _ _ U.wf ((Aq (n:=n) (t:=[41]) Y.wf Au).ok E) Bn
def Qk (k:Nat) : ∀(acc:List PD) (σ:PS),σ.at_<=ts.length->(B4 ts n k acc σ).2.err=0->acc.length<=64->(∀p∈acc,p.params.length<=8/\p.body.size<=2000) ->
 (B4 ts n k acc σ).1.length<=64 /\ ∀p∈(B4 ts n k acc σ).1,p.params.length<=8/\p.body.size<=2000:=by
 induction k with
 | zero=>intro acc σ h f N M;rw [B4];exact ⟨N,M⟩
 | succ k U=>
  intro acc σ h f N M;rw [B4] at f ⊢;split at f
  . rename_i O;rw [AX O];simp only at f ⊢;by_cases E:acc.length=64
    . rw [AX E] at f;have V:=BX (ts:=ts) h (Ap ts σ).pos 5;have F:=DH (n:=n) (k:=k) V.wf;exact absurd ((F.trans (DI k _ _ F.wf)).ok f) (DF Au)
    . rw [AC E] at f ⊢;have F:=DH (n:=n) (k:=k) h;refine U _ _ F.wf f (by simp only [ZZ,Z1,Z4];omega) (fun p L=>?_);rcases List.mem_append.1 L with L|L
      . exact M p L
      . have:p=(C8 ts n k σ).1:=by simpa using L
        rw [this];exact Kt h ((DI k _ _ F.wf).ok f)
  . rename_i O;rw [AC O];exact ⟨N,M⟩
def Nj {σ:PS} (h:(Dz ts n σ).err=0):σ.err=0 /\ ¬ σ.at_<ts.length:=by
 unfold Dz at h;split at h
 . exact absurd h Ef
 . exact ⟨h,Ag⟩
def It {k:Nat} {σ:PS} (h:σ.at_<=ts.length) (f:(BE ts n k σ).2.err=0) :
 (BE ts n k σ).1.vars.length<=32/\(BE ts n k σ).1.procs.length<=64/\(∀p∈(BE ts n k σ).1.procs,p.params.length<=8/\p.body.size<=2000)/\(BE ts n k σ).1.main.size<=2000:=by
 unfold BE at f ⊢;simp only at f ⊢;have E:=GT (n:=n) k [] σ h;have F:=DI (n:=n) k [] _ E.wf;have L:=Aq (n:=n) (t:=[109,97,105,110]) F.wf Au;unfold EG at f ⊢;simp only at f ⊢;have M:=Jp f;have U:=((DG (ts:=ts) (n:=n) k).2.2.2.1 _ L.wf).ok M.1;have N:=L.ok U;have h1:=F.ok N;have O:=Qk k _ _ E.wf N Bn Bn;exact ⟨Ru k _ _ h h1 Bn,O.1,O.2,M.2.2⟩
end
mutual
def Vs : ∀(t:Nd) (d m:Int),t.depth<=d->(t.size:Int)<=m->t.lim d m=(true,m-t.size)
 | .mk _ _ _ l,d,m,hd,hm=>by
  simp only [Nd.depth] at hd;simp only [Nd.size] at hm;have h0:0<=AU l:=Ku l;unfold Nd.lim;rw [AC Aa,Nk l (d-1) (m-1) Aa Aa];simp only [Nd.size];congr 1;omega
def Nk : ∀(l:List Nd) (d m:Int),AU l<=d->(Ak l:Int)<=m->Cq l d m=(true,m-Ak l)
 | [],d,m,_,_=>by simp [Cq,Ak]
 | t::r,d,m,hd,hm=>by
  simp only [AU] at hd;simp only [Ak] at hm;have h1:=Vs t d m Aa Aa;unfold Cq;rw [h1];simp only [if_true];rw [Nk r d _ Aa Aa];simp only [Ak];congr 1;omega
def Ku : ∀l:List Nd,0<=AU l
 | []=>by simp [AU]
 | t::r=>by have:=Ku r;simp only [AU];omega
end
def Xx {t:Nd} (f:t.depth<=80) (E:t.size<=2000) (h:t.isBlock=true):DZ t=true:=by
 unfold DZ;rw [Vs t 80 2000 f Aa,h];rfl
section
variable {ts:List Tok} {n:Int}
def Om (U:BD ts) {σ:PS} (h:σ.at_<=ts.length) (E:(Br ts n σ).2.err=0):(Br ts n σ).1.ok=true:=by
 unfold Br at E ⊢;split at E
 . rename_i f;rw [AX f];have F:=AM h f Au;obtain ⟨-,L⟩:=CL (Aw F).wf E;simp [VD.ok,L]
 . rename_i f;rw [AC f];split at E
   . rename_i f;rw [AX f];have F:=AM h f Au;obtain ⟨-,L⟩:=CL (Aw F).wf E;simp [VD.ok,L]
   . rename_i f;rw [AC f];split at E
     . rename_i f;rw [AX f];simp only at E ⊢;have F:=AM h f Au;have h1:=Aw F;have V:=AL (n:=n) h1.wf;have M:=Aq (n:=n) (t:=[91]) V.wf Au;have N:=Fk (n:=n) (a:=1) (b:=16) M.wf;have O:=(Aq (n:=n) (t:=[93]) N.wf Au).ok E;obtain ⟨-,L⟩:=CL h1.wf (M.ok (N.ok O));obtain ⟨t,-,-,e,-,X,Y⟩:=L3 U M.wf O;simp only [VD.ok,L,e];simp [X,Y]
     . exact absurd E Ef
def L7 {l:List VD} {v:VD} (h:De l=true) (f:v.ok=true):De (l++[v])=true:=by
 unfold De at *;simp [h,f]
def Sr (N:BD ts) (k:Nat) : ∀(acc:List VD) (σ:PS),σ.at_<=ts.length->(Dd ts n k acc σ).2.err=0->De acc=true->De (Dd ts n k acc σ).1=true:=by
 induction k with
 | zero=>intro acc σ h f E;rw [Dd];exact E
 | succ k O=>
  intro acc σ h f E;rw [Dd] at f ⊢;split at f
  . rename_i F;rw [AX F];simp only at f ⊢;generalize U:(if acc.length=32 then Bt σ (Ap ts σ).pos 5 else σ)=V at *;have L:Le ts σ V:=by
     rw [<-U];split
     . exact BX h _ _
     . exact dG h
    have M:=Cl (n:=n) L.wf;exact O _ _ M.wf f (L7 E (Om N L.wf ((GT k _ _ M.wf).ok f)))
  . rename_i F;rw [AC F];exact E
def TK (N:BD ts) (k:Nat) : ∀(acc:List VD) (σ:PS),σ.at_<=ts.length->(Bi ts n k acc σ).2.err=0->De acc=true->De (Bi ts n k acc σ).1=true:=by
 induction k with
 | zero=>intro acc σ h f E;rw [Bi];exact E
 | succ k O=>
  intro acc σ h f E;rw [Bi] at f ⊢;split at f
  . rename_i F;rw [AX F];simp only at f ⊢;have h1:=Aw (AM h F Au);generalize U:(if acc.length=8/\Cd ts (Ao σ)=true then Bt (Ao σ) (Ap ts (Ao σ)).pos 5 else Ao σ)=σ1 at *;have L:Le ts (Ao σ) σ1:=by
     rw [<-U];split
     . exact BX h1.wf _ _
     . exact dG h1.wf
    have M:=Cl (n:=n) L.wf;exact O _ _ M.wf f (L7 E (Om N L.wf ((EM k _ _ M.wf).ok f)))
  . rename_i F;rw [AC F];exact E
def L8 (E:BD ts) {k:Nat} {σ:PS} (h:σ.at_<=ts.length) (F:4*mS ts σ+8<=k) (f:(EG ts n k σ).2.err=0):DZ (EG ts n k σ).1=true:=by
 unfold EG at f ⊢;simp only at f ⊢;obtain ⟨L,M,N⟩:=Jp f;obtain ⟨a,-,O⟩:=(L6 E k).2.2.2.1 σ h F L;exact Xx M N (O.valid _ rfl)
def Ss (N:BD ts) {k:Nat} {σ:PS} (h:σ.at_<=ts.length) (hk:4*mS ts σ+8<=k) (E:(C8 ts n k σ).2.err=0):(C8 ts n k σ).1.ok=true:=by
 have f:=(Kt h E).1;rw [FF] at E f ⊢;simp only at E f ⊢;have O:=Aq (n:=n) (t:=[112,114,111,99]) h Au;have V:=AL (n:=n) O.wf;have F:=Aq (n:=n) (t:=[40]) V.wf Au;have M:=FE (n:=n) (k:=k) F.wf;have lb:=Gj (n:=n) (k:=k) M.wf;have m:=Bz (((O.trans V).trans F).trans M);have hb:=L8 N M.wf Aa E;have L:=lb.ok E;have e3:=M.ok L;obtain ⟨-,hm⟩:=CL O.wf (F.ok e3);have hp:De (FQ ts n k (Av ts n (A2 ts n (Av ts n σ [112,114,111,99])).2 [40])).1=true:=by
  unfold FQ at L ⊢;split at L
  . rename_i U;rw [AX U];rfl
  . rename_i U;rw [AC U];simp only at L ⊢;have X:=Cl (n:=n) F.wf;have Y:=EM (n:=n) k [(Br ts n (Av ts n (A2 ts n (Av ts n σ [112,114,111,99])).2 [40])).1] _ X.wf;have Z:=(Aq (n:=n) (t:=[41]) Y.wf Au).ok L;refine TK N k _ _ X.wf Z ?_;unfold De;simp [Om N F.wf (Y.ok Z)]
 simp only [PD.ok,hm,hp,hb,Bool.and_true,Bool.true_and];exact decide_eq_true f
def Vt (O:BD ts) (k:Nat) : ∀(acc:List PD) (σ:PS),σ.at_<=ts.length->(σ.err=0->4*mS ts σ+9<=k)->(B4 ts n k acc σ).2.err=0->acc.all PD.ok=true->(B4 ts n k acc σ).1.all PD.ok=true:=by
 induction k with
 | zero=>intro acc σ h M f F;rw [B4];exact F
 | succ k U=>
  intro acc σ h M f F;rw [B4] at f ⊢;split at f
  . rename_i L;rw [AX L];simp only at f ⊢;have V:=(AM h L Au).1;have X:=M V;by_cases c:acc.length=64
    . rw [AX c] at f;exfalso;have Y:=BX (ts:=ts) h (Ap ts σ).pos 5;have E:=DH (n:=n) (k:=k) Y.wf;exact absurd ((E.trans (DI k _ _ E.wf)).ok f) (DF Au)
    . rw [AC c] at f ⊢;have E:=DH (n:=n) (k:=k) h;have N:=(DI k (acc++[(C8 ts n k σ).1]) _ E.wf).ok f;have Z:=Rs E (Jd h) N;refine U _ _ E.wf (fun _=>by omega) f ?_;rw [List.all_append,F];simp [Ss O h Aa N]
  . rename_i L;rw [AC L];exact F
def Rv (L:BD ts) {k:Nat} {σ:PS} (h:σ.at_<=ts.length) (hk:4*mS ts σ+9<=k) (f:(BE ts n k σ).2.err=0):(BE ts n k σ).1.ok=true:=by
 obtain ⟨M,N,-,-⟩:=It h f;unfold BE at f M N ⊢;simp only at f M N ⊢;have E:=GT (n:=n) k [] σ h;have O:=DI (n:=n) k [] _ E.wf;have F:=Aq (n:=n) (t:=[109,97,105,110]) O.wf Au;have V:=Gj (n:=n) (k:=k) F.wf;have X:=V.ok f;have U:=F.ok X;have Y:=O.ok U;have m1:=Bz E;have m3:=Bz ((E.trans O).trans F);have Z:=Sr L k [] σ h Y rfl;have hp:=Vt L k [] _ E.wf (fun _=>by omega) U rfl;have hb:=L8 L F.wf Aa f;simp only [PG.ok,Z,hp,hb,Bool.and_true];simp [M,N]
def St (n:Int) (σ:PS):Prop:=σ.err≠0->0<=σ.off/\σ.off<=n
def Gt {σ:PS} {off e:Int} (f:0<=off) (h1:off<=n) (i:St n σ):St n (Bt σ off e):=by
 unfold Bt;split
 . exact fun _=>⟨f,h1⟩
 . exact i
def Xy (hn:0<=n) (hp : ∀t∈ts,0<=t.pos/\t.pos<=n):CloL ts n (St n) where
 next:=fun σ _ i=>i
 unexp:=fun σ h i=>by
  unfold CO;split
  . rename_i hl;rw [bT,Z0 hl];exact Gt (hp _ (Z8 hl)).1 (hp _ (Z8 hl)).2 i
  . exact Gt hn (Int.le_refl _) i
 full:=fun σ h i=>Gt (hp _ (Gs h.2 h.1)).1 (hp _ (Gs h.2 h.1)).2 i
 range:=fun σ h i=>Gt (hp _ (Gs h.2 h.1)).1 (hp _ (Gs h.2 h.1)).2 i
 lim:=fun σ x τ h i j=>by
  have hq:0<=(Ap ts σ).pos/\(Ap ts σ).pos<=n:=by
   by_cases c:σ.err≠0\/σ.at_=ts.length
   . have:Ap ts σ=Tok.zero:=by unfold Ap;rw [AX c]
     rw [this];exact ⟨Au,hn⟩
   . exact hp _ (Gs Aa Aa)
  unfold DV;split
  . exact j
  . split
    . exact Gt hq.1 hq.2 j
    . split
      . exact Gt hq.1 hq.2 j
      . exact j
end
def Nl (s:lB) : ∀(k p:Nat) (acc:List Tok) (q:Nat),(Et k s p acc).2=some q->q<=s.length
 | 0,p,acc,q,h=>by rw [Et] at h;cases h
 | k+1,p,acc,q,h=>by
  rw [Et] at h;split at h
  . rename_i f;split at h
    . cases h;omega
    . exact Nl s k _ _ q h
  . cases h
def TL (s:lB):St s.length (Cn s).2:=by
 intro _;show 0<=(F6 s).2.1/\(F6 s).2.1<=(s.length:Int);unfold F6;split
 . show (0:Int)<=0/\(0:Int)<=(s.length:Int);omega
 . split
   . show (0:Int)<=0/\(0:Int)<=(s.length:Int);omega
   . rename_i l p f;have:=Nl s _ _ _ p (by rw [f]);show (0:Int)<=(p:Int)/\(p:Int)<=(s.length:Int);omega
def TM (s:lB) : ∀t∈(Cn s).1,0<=t.pos/\t.pos<=s.length:=fun t f=>(Je s t f).pos
def KB (s:lB):((A3 s).2.2=0->(A3 s).1.ok=true/\(A3 s).2.1=0)/\((A3 s).2.2≠0->(A3 s).1=⟨[],[],BF⟩/\0<=(A3 s).2.1/\(A3 s).2.1<=s.length):=by
 have F:=Ib s;have L:mS (Cn s).1 (Cn s).2<=(Cn s).1.length:=by unfold mS;split<;>omega
 have f:(Cn s).2.at_<=(Cn s).1.length:=aE _;unfold A3;simp only;split
 . rename_i h;refine ⟨fun e=>absurd e h,fun _=>⟨rfl,?_⟩⟩;have C:=Xy (ts:=(Cn s).1) (n:=s.length) Aa (TM s);have E:=Po (n:=s.length) (k:=F7 s) f;exact C.toClo.finish E.wf (C.program f (TL s)) h
 . rename_i h;refine ⟨fun _=>⟨?_,rfl⟩,fun e=>absurd rfl e⟩;exact Rv (Gk s) f (by unfold F7;omega) (Nj (by simpa using h)).1
def D7 {m:lB} (h:Bc m=true):m.length<=16:=by
 simp only [Bc,Z3,decide_eq_true_eq] at h;exact h.1.1.1.2
def G.wf {f:Nt} {a:GV} {x:Nd} (h:G f a x):match f with
 | .cl _ y=>y.wf->x.wf
 | _=>x.wf:=by
 induction h with
 | ex _ _ E i2=>exact i2 E
 | cl0=>exact fun h=>h
 | @cl1 lv op t a b x y z h1 F N O U i3 i5=>
  intro L;obtain ⟨-,V,M,-⟩:=FA h1;refine i5 ?_;exact ⟨Aa,Aa,Aa,Aa,Bn,Bn,L,i3,trivial⟩
 | neg _ i=>exact ⟨Aa,Aa,Aa,Aa,Bn,Bn,i,trivial⟩
 | not _ i=>exact ⟨Aa,Aa,Aa,Aa,Bn,Bn,i,trivial⟩
 | num h1 F=>exact ⟨Aa,Aa,Aa,Aa,Bn,Bn,trivial⟩
 | top h=>have:=D7 h;exact ⟨Aa,Aa,Aa,Aa,Aa,Bn,trivial⟩
 | size h=>have:=D7 h;exact ⟨Aa,Aa,Aa,Aa,Aa,Bn,trivial⟩
 | par _ i=>exact i
 | place _ i=>exact i
 | var h=>have:=D7 h;exact ⟨Aa,Aa,Aa,Aa,Aa,Bn,trivial⟩
 | item h _ i=>have:=D7 h;exact ⟨Aa,Aa,Aa,Aa,Aa,Bn,i,trivial⟩
def Rw (l:GV) (h : ∀v∈l,Bc v=true):A6 (l.map L5):=by
 induction l with
 | nil=>trivial
 | cons v r f=>
  have:=D7 (h v Bn);exact ⟨⟨Aa,Aa,Aa,Aa,Aa,Bn,trivial⟩,f (fun u E=>h u (by simp [E]))⟩
def Nm (t:lB):0<=CB t/\CB t<=255:=by
 unfold CB;split
 . decide
 split
 . decide
 split
 . decide
 split
 . decide
 . decide
def GS.wf {U:NtS} {a:GV} {l:List Nd} (h:GS U a l) (F:a.length<=9223372036854775807):match U with
 | .ls=>A6 l/\l.length<=a.length
 | _=>A6 l:=by
 induction h with
 | stack h1 f E=>
  have:=D7 E;have v:=f.wf;simp only [Ie,aK,bC,aR,or_false] at h1;rcases h1 with ⟨-,rfl⟩|⟨-,rfl⟩<;>exact ⟨⟨Aa,Aa,Aa,Aa,Aa,Bn,v,trivial⟩,trivial⟩
 | tape h1 f=>
  have v:=f.wf;simp only [JU,aK,bC,aR,or_false] at h1;rcases h1 with ⟨-,rfl⟩|⟨-,rfl⟩|⟨-,rfl⟩|⟨-,rfl⟩<;>exact ⟨⟨Aa,Aa,Aa,Aa,Bn,Bn,v,trivial⟩,trivial⟩
 | call0 h1 f=>
  have:=D7 f;simp only [F1,aK,bC,aR,or_false] at h1;rcases h1 with ⟨-,rfl⟩|⟨-,rfl⟩<;>exact ⟨⟨Aa,Aa,Aa,Aa,Aa,Bn,trivial⟩,trivial⟩
 | @call1 X m u Y l h1 f E L V=>
  have:=D7 f;have v:=Rw (u::l) (fun v M=>by rcases aK.1 M with rfl|M;exact E;exact L v M);have N:((u::l).map L5).length<=9223372036854775807:=by simp only [List.length_map,Z1];omega
  simp only [F1,aK,bC,aR,or_false] at h1;rcases h1 with ⟨-,rfl⟩|⟨-,rfl⟩<;>exact ⟨⟨Aa,Aa,Aa,Aa,Aa,N,v⟩,trivial⟩
 | branch h1 f E L V i3 i4=>
  simp only [Z1,ZZ] at F;have v2:=f.wf;have v5:=V.wf;have v3:=(i3 Aa).1;have v4:=(i4 Aa).1;simp only [ED,aK,bC,aR,or_false] at h1;rcases h1 with ⟨-,rfl,-⟩|⟨-,rfl,-⟩<;>exact ⟨⟨Aa,Aa,Aa,Aa,Bn,Bn,v2,v3,v4,v5,trivial⟩,trivial⟩
 | lstack h1 f i2=>
  simp only [Z1] at F;have:=D7 h1;exact ⟨⟨Aa,Aa,Aa,Aa,Aa,Bn,(i2 Aa).1,trivial⟩,trivial⟩
 | local_ h1 f E L i3=>
  simp only [Z1,ZZ] at F;have:=D7 h1;exact ⟨⟨Aa,Aa,Aa,Aa,Aa,Bn,f.wf,(i3 Aa).1,L.wf,trivial⟩,trivial⟩
 | @upd t a b x y h1 f E=>exact ⟨⟨(Nm t).1,(Nm t).2,Aa,Aa,Bn,Bn,h1.wf,E.wf,trivial⟩,trivial⟩
 | swap h1 f=>exact ⟨⟨Aa,Aa,Aa,Aa,Bn,Bn,h1.wf,f.wf,trivial⟩,trivial⟩
 | bl h1 O=>
  simp only [Z1,ZZ,Z4] at F;obtain ⟨v,N⟩:=O Aa;exact ⟨⟨Aa,Aa,Aa,Aa,Bn,Aa,v⟩,trivial⟩
 | ls0=>exact ⟨trivial,aC _⟩
 | ls1 h1 f O i2=>
  simp only [Z1,ZZ] at F;obtain ⟨v,N⟩:=i2 Aa;refine ⟨⟨(O Aa).1,v⟩,?_⟩;simp only [Z1,ZZ];omega
def VD.wf_ok {v:VD} (h:v.ok=true):v.wf:=by
 simp only [VD.ok,Z3] at h;obtain ⟨h1,f⟩:=h;have:=D7 h1;split at f
 . rename_i E;have:v.len=0:=by simpa using f
   exact ⟨Aa,Aa,Aa,Aa,Aa⟩
 . split at f
   . simp only [Z3,decide_eq_true_eq] at f;exact ⟨Aa,Aa,Aa,Aa,Aa⟩
   . cases f
def Nn {l:List VD} (h:De l=true) : ∀v∈l,v.wf:=fun v f=>VD.wf_ok (bR.1 h v f)
section
variable {ts:List Tok} {n:Int}
def Xz {σ σ':PS} {a:GV} (h:Seg ts σ σ' a):a.length<=ts.length:=by
 have h1:=Oj (ts:=ts) σ;have f:rem ts σ=a++rem ts σ':=h;rw [f,ZZ] at h1;omega
def Su (E:BD ts) (O:ts.length<=1000000) {k:Nat} {σ:PS} (h:σ.at_<=ts.length) (F:4*mS ts σ+8<=k) (f:(EG ts n k σ).2.err=0):(EG ts n k σ).1.wf:=by
 unfold EG at f ⊢;simp only at f ⊢;obtain ⟨L,-,-⟩:=Jp f;obtain ⟨a,M,N⟩:=(L6 E k).2.2.2.1 σ h F L;have:=Xz M;exact (N.wf Aa).1
def XA (F:BD ts) (U:ts.length<=1000000) {k:Nat} {σ:PS} (h:σ.at_<=ts.length) (V:4*mS ts σ+8<=k) (E:(C8 ts n k σ).2.err=0):(C8 ts n k σ).1.wf:=by
 have f:=Ss F h V E;simp only [PD.ok,Z3,decide_eq_true_eq] at f;have:=D7 f.1.1.1;refine ⟨Aa,Aa,Nn f.1.2,?_⟩;rw [FF] at E ⊢;simp only at E ⊢;have L:=Aq (n:=n) (t:=[112,114,111,99]) h Au;have M:=AL (n:=n) L.wf;have N:=Aq (n:=n) (t:=[40]) M.wf Au;have O:=FE (n:=n) (k:=k) N.wf;have m:=Bz (((L.trans M).trans N).trans O);exact Su F U O.wf Aa E
def Vu (U:BD ts) (V:ts.length<=1000000) (k:Nat) : ∀(acc:List PD) (σ:PS),σ.at_<=ts.length->(σ.err=0->4*mS ts σ+9<=k)->(B4 ts n k acc σ).2.err=0->(∀p∈acc,p.wf) -> ∀p∈(B4 ts n k acc σ).1,p.wf:=by
 induction k with
 | zero=>intro acc σ h N f L;rw [B4];exact L
 | succ k X=>
  intro acc σ h N f L;rw [B4] at f ⊢;split at f
  . rename_i M;rw [AX M];simp only at f ⊢;have Y:=(AM h M Au).1;have Z:=N Y;by_cases c:acc.length=64
    . rw [AX c] at f;exfalso;have l0:=BX (ts:=ts) h (Ap ts σ).pos 5;have E:=DH (n:=n) (k:=k) l0.wf;exact absurd ((E.trans (DI k _ _ E.wf)).ok f) (DF Au)
    . rw [AC c] at f ⊢;have E:=DH (n:=n) (k:=k) h;have O:=(DI k (acc++[(C8 ts n k σ).1]) _ E.wf).ok f;have m1:=Rs E (Jd h) O;refine X _ _ E.wf (fun _=>by omega) f (fun p F=>?_);rcases List.mem_append.1 F with F|F
      . exact L p F
      . have:p=(C8 ts n k σ).1:=by simpa using F
        rw [this];exact XA U V h Aa O
  . rename_i M;rw [AC M];exact L
def Rx (L:BD ts) (N:ts.length<=1000000) {k:Nat} {σ:PS} (h:σ.at_<=ts.length) (hk:4*mS ts σ+9<=k) (f:(BE ts n k σ).2.err=0):(BE ts n k σ).1.wf:=by
 obtain ⟨O,U,-,-⟩:=It h f;unfold BE at f O U ⊢;simp only at f O U ⊢;have E:=GT (n:=n) k [] σ h;have M:=DI (n:=n) k [] _ E.wf;have F:=Aq (n:=n) (t:=[109,97,105,110]) M.wf Au;have X:=Gj (n:=n) (k:=k) F.wf;have Y:=X.ok f;have V:=F.ok Y;have Z:=M.ok V;have m1:=Bz E;have m3:=Bz ((E.trans M).trans F);exact ⟨by simp only;omega,by simp only;omega,Nn (Sr L k [] σ h Z rfl),Vu L N k [] _ E.wf (fun _=>by omega) V Bn,Su L N F.wf Aa f⟩
end
def E9 (s:lB) (F:s.length<=1000000) (f:(A3 s).2.2=0):(A3 s).1.wf:=by
 have L:=Ib s;have M:mS (Cn s).1 (Cn s).2<=(Cn s).1.length:=by unfold mS;split<;>omega
 have E:(Cn s).2.at_<=(Cn s).1.length:=aE _;unfold A3 at f ⊢;simp only at f ⊢;split at f
 . rename_i h;exact absurd f h
 . rename_i h;rw [AC h];exact Rx (Gk s) Aa E (by unfold F7;omega) (Nj (by simpa using h)).1
def Vv (ws:List lB) (g:PG):EX:=⟨ws.getD 1 [],CM ws 0,CM ws 1,⟨CM ws 2,CM ws 3,CM ws 4⟩,g⟩
noncomputable def FR (s:lB):Except Int (EX×lB):=
 open Classical in
 if (CK s).2.2=false then .error 4
 else if ¬Nc (BG (CK s).1) then .error 3
 else if (Dc (CK s).2.1 (CM (BG (CK s).1) 5).toNat).2.2=false then .error 4
 else if ¬(A3 (Dc (CK s).2.1 (CM (BG (CK s).1) 5).toNat).1).2.2=0 then .error 3
 else if ¬(A3 (Dc (CK s).2.1 (CM (BG (CK s).1) 5).toNat).1).1.text=(Dc (CK s).2.1 (CM (BG (CK s).1) 5).toNat).1 then .error 3
 else if ¬(Vv (BG (CK s).1) (A3 (Dc (CK s).2.1 (CM (BG (CK s).1) 5).toNat).1).1).valid then .error 3
 else .ok (Vv (BG (CK s).1) (A3 (Dc (CK s).2.1 (CM (BG (CK s).1) 5).toNat).1).1,(Dc (CK s).2.1 (CM (BG (CK s).1) 5).toNat).2.1)
def Zf (q:Except Int (EX×lB)) (w:wD):Ending->wD->Prop:=fun e w'=>match q with
 | .ok (x,rest)=> ∃va vc pa pc ma mc,e = .returned (.tuple #[.agg (x.cells va vc pa pc ma mc).toArray,str rest,.int .i64 0])/\x.sits (w.heap.size <= ·) w' va pa ma vc/\Ext w w'
 | .error k=>e = .returned (.tuple #[.agg zeroEX.cells0.toArray,str [],.int .i64 k])/\Ext w w'
def Ry (s:lB):(CK s).1.length<=s.length/\(CK s).2.1.length<=s.length:=by
 unfold CK Lib.cut;split
 . simp only [bB,List.length_drop];omega
 . simp
def On (s:lB) (n:Nat):(Dc s n).1.length<=s.length/\(Dc s n).2.1.length<=s.length:=by
 unfold Dc;split
 . simp
 . simp only [bB,List.length_drop];omega
def Vw {g:PG} (h:g.ok=true):g.vars.length<=32:=by
 unfold PG.ok at h;simp only [Z3,decide_eq_true_eq] at h;exact h.1.1.1.1
set_option maxHeartbeats 8000000 in
def Vx (s:List UInt8) (hs:s.length<=100000) (w:World) (E:Errs2 w) (f:TabsF w) :
 Calls prog 37 #[str s] w (Zf (FR s) w):=by
 have X:=cB w;have hm:=f.g;have HC:=Z2 (fun w1 h=>Zd s Aa w1 h);have de:=Ry s;obtain ⟨q,hq⟩ : ∃q,q=FR s:=⟨_,rfl⟩
 rw [<-hq]
 unfold FR at hq
 generalize CK s=ct at *
 obtain ⟨c1,c2,c3⟩:=ct;simp only at de hq HC
 cases c3 with
 | false=>
  rw [AX rfl] at hq;subst hq;refine Ad func37 ntmps37 rfl rfl ?_
  refine cS ?_;refine eA [_,_,_,_,_,_,_,_,_,_,_,_] ?_;intro b1 w2 h5 x6 p7 z8;replace E:=E.ext x6;replace f:=f.ext x6;replace X:=X.ext x6;clear x6;refine C1 Pa (C1 Pa (cN (C1 Mv ?_)));refine cC rfl (HC.out _ Ag) ?_;rintro _ ho ⟨⟨⟩,x9⟩;have hp:=x9.size;replace h5:=h5.ext x9;replace E:=E.ext x9;replace f:=f.ext x9;replace X:=X.ext x9;clear x9;refine C1 Mv (C1 Px (C1 Px (C1 Px (C1 Pa (C1 Pa (C1 Pa (cT (Ah (cS (C1 Mv (C1 Pt ?_)))))))))));refine cT (BY rfl (cS (C1 (BU [_,_,_,_,_,_,_,_,_,_,_,_] Ac Ci rfl rfl rfl rfl) ?_)));refine eS [_,_,_,_,_,_,_,_,_,_,_,_] h5 ?_;intro hr df cb hu;clear h5;replace E:=E.fr cb Aa;replace f:=f.fr cb Aa;replace X:=X.fr cb Aa;clear cb;refine C1 Pa (C1 Pa (cT (AY (Ar (CH rfl Ac rfl rfl rfl df rfl rfl rfl ?_)))))
  exact ⟨rfl,X⟩
 | true=>
 rw [AC Au] at hq;have HH:=Z2 (fun w1 h1 h2=>Oi c1 Aa w1 h1 h2);have cc:=Oh ((BG c1).getD (3+2*5) [])
 change 0<=CM (BG c1) 5/\CM (BG c1) 5<=1000000000 at cc
 have b8 : ∀i,((BG c1).getD i []).length<=c1.length:=fun i=>Sm i
 generalize BG c1=ws at *
 rcases (Decidable.em (Nc ws)).symm with hk|hk
 . rw [AX hk] at hq;rw [show Qi ws = .tuple #[.agg #[str [],.int .i64 0,.int .i64 0,.int .i64 0,.int .i64 0,.int .i64 0,.slice none 0 0,.slice none 0 0,.int .u8 0,.int .i64 0,str [],.slice none 0 0],.int .i64 0,.bool false] from AC hk] at HH;subst hq;clear b8 cc;refine Ad func37 ntmps37 rfl rfl ?_
   refine cS ?_;refine eA [_,_,_,_,_,_,_,_,_,_,_,_] ?_;intro hw hy bm cd hz h0;replace E:=E.ext cd;replace f:=f.ext cd;replace X:=X.ext cd;clear cd;refine C1 Pa (C1 Pa (cN (C1 Mv ?_)));refine cC rfl (HC.out _ Ag) ?_;rintro _ d7 ⟨⟨⟩,b2⟩;have d8:=b2.size;replace bm:=bm.ext b2;replace E:=E.ext b2;replace f:=f.ext b2;replace X:=X.ext b2;clear b2;refine C1 Mv (C1 Px (C1 Px (C1 Px (C1 Pa (C1 Pa (C1 Pa (cT (Ah (cS (C1 Mv (C1 Pt ?_)))))))))));refine cT (AR rfl (Am (Ae (cS (C1 Mv ?_)))));refine cC rfl (HH.out _ Ag Ag) ?_;rintro _ d9 ⟨⟨⟩,ba⟩;have ea:=ba.size;replace bm:=bm.ext ba;replace E:=E.ext ba;replace f:=f.ext ba;replace X:=X.ext ba;clear ba;refine C1 Mv (C1 Px (C1 Px (C1 Px ?_)));refine Bm [_,_,_,_,_,_,_,_,_,_,_,_] Ci rfl rfl ?_;intro eb cv ck;refine eI [_,_,_,_,_,_,_,_,_,_,_,_] ck ?_;clear ck cv;intro ec cl bn ed ee;replace bm:=bm.ext bn;replace E:=E.ext bn;replace f:=f.ext bn;replace X:=X.ext bn;clear bn;refine C1 Pa (C1 Pa (cT (Ah (cS (C1 Mv (C1 Pt (cT (BY rfl (cS (C1 (BU [_,_,_,_,_,_,_,_,_,_,_,_] Ac Ci rfl rfl rfl rfl) ?_))))))))));refine eS [_,_,_,_,_,_,_,_,_,_,_,_] bm ?_;intro ef cw bo eg;clear bm;replace cl:=cl.fr bo Aa;replace E:=E.fr bo Aa
   replace f:=f.fr bo Aa;replace X:=X.fr bo Aa;clear bo;refine C1 Pa (C1 Pa (cT (AY (Ar (CH rfl Ac rfl rfl rfl cw rfl rfl rfl ?_)))))
   exact ⟨rfl,X⟩
 rw [AC (fun h=>h hk)] at hq;have h3:=b8 1;clear b8;have hT:Qi ws = .tuple #[.agg #[str (ws.getD 1 []),.int .i64 (CM ws 0),.int .i64 (CM ws 1),.int .i64 (CM ws 2),.int .i64 (CM ws 3),.int .i64 (CM ws 4),.slice none 0 0,.slice none 0 0,.int .u8 0,.int .i64 0,str [],.slice none 0 0],.int .i64 (CM ws 5),.bool true]:=AX hk;rw [hT] at HH;obtain ⟨n,hn⟩:=Int.eq_ofNat_of_zero_le cc.1;rw [hn] at hq cc HH;rw [Int.toNat_natCast] at hq;have HK:=Z2 (fun w1=>YC c2 Aa n Aa w1);have dg:=On c2 n;have hb:0<=CM ws 0/\0<=CM ws 1:=⟨(Oh _).1,(Oh _).1⟩
 unfold Vv at hq
 clear hT hk hn
 generalize ws.getD 1 []=nm at *
 generalize CM ws 0=po at *
 generalize CM ws 1=fu at *
 generalize CM ws 2=bv at *
 generalize CM ws 3=bl at *
 generalize CM ws 4=bi at *
 generalize Dc c2 n=tk at *
 obtain ⟨tx,rest,k3⟩:=tk;simp only at dg hq HK
 cases k3 with
 | false=>
  rw [AX rfl] at hq;subst hq;refine Ad func37 ntmps37 rfl rfl ?_
  refine cS ?_;refine eA [_,_,_,_,_,_,_,_,_,_,_,_] ?_;intro h4 h6 a9 ce h7 h8;replace E:=E.ext ce;replace f:=f.ext ce;replace X:=X.ext ce;clear ce;refine C1 Pa (C1 Pa (cN (C1 Mv ?_)));refine cC rfl (HC.out _ Ag) ?_;rintro _ eh ⟨⟨⟩,b3⟩;have ei:=b3.size;replace a9:=a9.ext b3;replace E:=E.ext b3;replace f:=f.ext b3;replace X:=X.ext b3;clear b3;refine C1 Mv (C1 Px (C1 Px (C1 Px (C1 Pa (C1 Pa (C1 Pa (cT (Ah (cS (C1 Mv (C1 Pt ?_)))))))))));refine cT (AR rfl (Am (Ae (cS (C1 Mv ?_)))));refine cC rfl (HH.out _ Ag Ag) ?_;rintro _ ej ⟨⟨⟩,bb⟩;have ek:=bb.size;replace a9:=a9.ext bb;replace E:=E.ext bb;replace f:=f.ext bb;replace X:=X.ext bb;clear bb;refine C1 Mv (C1 Px (C1 Px (C1 Px ?_)));refine Bm [_,_,_,_,_,_,_,_,_,_,_,_] Ci rfl rfl ?_;intro el cx cm;refine eI [_,_,_,_,_,_,_,_,_,_,_,_] cm ?_;clear cm cx;intro en bx bp eo ep;replace a9:=a9.ext bp;replace E:=E.ext bp;replace f:=f.ext bp;replace X:=X.ext bp;clear bp;refine C1 Pa (C1 Pa (cT (Ah (cS (C1 Mv (C1 Pt (cT (AR rfl (Am (Ae (cS ?_)))))))))));refine C1 Mv (C1 Mv (cC rfl (HK.out _) ?_));rintro _ eq ⟨⟨⟩,a0⟩;have es:=a0.size;replace bx:=bx.ext a0;replace a9:=a9.ext a0;replace E:=E.ext a0;replace f:=f.ext a0;replace X:=X.ext a0
  clear a0;refine C1 Mv (C1 Px (C1 Px (C1 Px (C1 Pa (C1 Pa (C1 Pa (cT (Ah (cS (C1 Mv (C1 Pt ?_)))))))))));refine cT (BY rfl (cS (C1 (BU [_,_,_,_,_,_,_,_,_,_,_,_] Ac Ci rfl rfl rfl rfl) ?_)));refine eS [_,_,_,_,_,_,_,_,_,_,_,_] a9 ?_;intro et cy bq eu;clear a9;replace bx:=bx.fr bq Aa;replace E:=E.fr bq Aa;replace f:=f.fr bq Aa;replace X:=X.fr bq Aa;clear bq;refine C1 Pa (C1 Pa (cT (AY (Ar (CH rfl Ac rfl rfl rfl cy rfl rfl rfl ?_)))))
  exact ⟨rfl,X⟩
 | true=>
 rw [AC Au] at hq;have HP:=Z2 (fun w1 (h1:TabsF w1) (h2:Errs2 w1)=>Q4 tx w1 Aa ⟨h1.t.sym⟩ h2.r);have cr:=(KB tx).1;have cu:=E9 tx Aa
 generalize A3 tx=pr at *
 obtain ⟨g,off,er⟩:=pr;simp only at hq cr cu
 rcases (Decidable.em (er=0)).symm with he|he
 . rw [AX he] at hq;subst hq;refine Ad func37 ntmps37 rfl rfl ?_
   refine cS ?_;refine eA [_,_,_,_,_,_,_,_,_,_,_,_] ?_;intro h9 ia ai cf ib ic;replace E:=E.ext cf;replace f:=f.ext cf;replace X:=X.ext cf;clear cf;refine C1 Pa (C1 Pa (cN (C1 Mv ?_)));refine cC rfl (HC.out _ Ag) ?_;rintro _ ew ⟨⟨⟩,b4⟩;have ex:=b4.size;replace ai:=ai.ext b4;replace E:=E.ext b4;replace f:=f.ext b4;replace X:=X.ext b4;clear b4;refine C1 Mv (C1 Px (C1 Px (C1 Px (C1 Pa (C1 Pa (C1 Pa (cT (Ah (cS (C1 Mv (C1 Pt ?_)))))))))));refine cT (AR rfl (Am (Ae (cS (C1 Mv ?_)))));refine cC rfl (HH.out _ Ag Ag) ?_;rintro _ ey ⟨⟨⟩,bc⟩;have ez:=bc.size;replace ai:=ai.ext bc;replace E:=E.ext bc;replace f:=f.ext bc;replace X:=X.ext bc;clear bc;refine C1 Mv (C1 Px (C1 Px (C1 Px ?_)));refine Bm [_,_,_,_,_,_,_,_,_,_,_,_] Ci rfl rfl ?_;intro e0 cz cn;refine eI [_,_,_,_,_,_,_,_,_,_,_,_] cn ?_;clear cn cz;intro e1 aj br e2 e3;replace ai:=ai.ext br;replace E:=E.ext br;replace f:=f.ext br;replace X:=X.ext br;clear br;refine C1 Pa (C1 Pa (cT (Ah (cS (C1 Mv (C1 Pt (cT (AR rfl (Am (Ae (cS ?_)))))))))));refine C1 Mv (C1 Mv (cC rfl (HK.out _) ?_));rintro _ e4 ⟨⟨⟩,a1⟩;have e5:=a1.size;replace aj:=aj.ext a1;replace ai:=ai.ext a1;replace E:=E.ext a1;replace f:=f.ext a1;replace X:=X.ext a1
   clear a1;refine C1 Mv (C1 Px (C1 Px (C1 Px (C1 Pa (C1 Pa (C1 Pa (cT (Ah (cS (C1 Mv (C1 Pt ?_)))))))))));refine cT (AR rfl (Am (Ae (cS (C1 Mv ?_)))));refine eQ rfl (HP.out _ Ag Ag) ?_;rintro _ e6 ⟨dh,⟨di,⟨dk,⟨dl,⟨dm,⟨dn,⟨⟨⟩,⟨bz,⟨b0,⟨e7,a2⟩⟩⟩⟩⟩⟩⟩⟩⟩⟩;have e8:=a2.size;replace aj:=aj.ext a2;replace ai:=ai.ext a2;replace E:=E.ext a2;replace f:=f.ext a2;replace X:=X.ext a2;clear a2;refine C1 Mv (C1 Px (C1 Px (C1 Px ?_)));refine Bm [_,_,_,_,_,_] Ci rfl rfl ?_;intro e9 c0 ak;refine D3 [_,_,_,_,_,_] Ac rfl rfl rfl rfl rfl rfl ak rfl ?_;clear ak;clear c0;intro fa ak;have b9:=ak.blk;dsimp only at b9;have al:=ak.ext;have fc:=ak.pos;have fd:=ak.size;clear ak;replace bz:=cG bz al;replace b0:=b0.ext al;replace aj:=aj.ext al;replace ai:=ai.ext al;replace E:=E.ext al;replace f:=f.ext al;replace X:=X.ext al;clear al;refine C1 Pa (C1 Pa (cT (Ah (cS (C1 Mv (C1 V2 (cT (KY (cS (C1 (BU [_,_,_,_,_,_,_,_,_,_,_,_] Ac Ci rfl rfl rfl rfl) ?_))))))))));refine eS [_,_,_,_,_,_,_,_,_,_,_,_] ai ?_;intro fe c4 am ff;clear ai;replace b9:=b9.fr am Aa;replace bz:=dL bz am Aa;replace b0:=b0.fr am Aa;replace aj:=aj.fr am Aa
   replace E:=E.fr am Aa;replace f:=f.fr am Aa;replace X:=X.fr am Aa;clear am;refine C1 Pa (C1 Pa (cT (AY (Ar (CH rfl Ac rfl rfl rfl c4 rfl rfl rfl ?_)))))
   exact ⟨rfl,X⟩
 subst he;rw [AC (fun h=>h rfl)] at hq;have ca:=(cr rfl).1;have cg:=cu rfl;clear cr cu;have HR:=Z2 (fun S va vc pa pc ma mc w1 (h1:TabsF w1) h2=>M9 g S va vc pa pc ma mc w1 cg h1.t h1.g h2);rw [AX ca,AX ca] at HR
 rcases (Decidable.em (g.text=tx)).symm with hx|hx
 . rw [AX hx] at hq;subst hq;clear ca cg
   generalize g.text=ty at *
   refine Ad func37 ntmps37 rfl rfl ?_
   refine cS ?_;refine eA [_,_,_,_,_,_,_,_,_,_,_,_] ?_;intro id ie O ch ig ih;replace E:=E.ext ch;replace f:=f.ext ch;replace X:=X.ext ch;clear ch;refine C1 Pa (C1 Pa (cN (C1 Mv ?_)));refine cC rfl (HC.out _ Ag) ?_;rintro _ fg ⟨⟨⟩,b5⟩;have fh:=b5.size;replace O:=O.ext b5;replace E:=E.ext b5;replace f:=f.ext b5;replace X:=X.ext b5;clear b5;refine C1 Mv (C1 Px (C1 Px (C1 Px (C1 Pa (C1 Pa (C1 Pa (cT (Ah (cS (C1 Mv (C1 Pt ?_)))))))))));refine cT (AR rfl (Am (Ae (cS (C1 Mv ?_)))));refine cC rfl (HH.out _ Ag Ag) ?_;rintro _ fi ⟨⟨⟩,bd⟩;have fj:=bd.size;replace O:=O.ext bd;replace E:=E.ext bd;replace f:=f.ext bd;replace X:=X.ext bd;clear bd;refine C1 Mv (C1 Px (C1 Px (C1 Px ?_)));refine Bm [_,_,_,_,_,_,_,_,_,_,_,_] Ci rfl rfl ?_;intro fk c5 co;refine eI [_,_,_,_,_,_,_,_,_,_,_,_] co ?_;clear co c5;intro fl U bs fm fo;replace O:=O.ext bs;replace E:=E.ext bs;replace f:=f.ext bs;replace X:=X.ext bs;clear bs;refine C1 Pa (C1 Pa (cT (Ah (cS (C1 Mv (C1 Pt (cT (AR rfl (Am (Ae (cS ?_)))))))))));refine C1 Mv (C1 Mv (cC rfl (HK.out _) ?_));rintro _ fp ⟨⟨⟩,a3⟩;have fq:=a3.size;replace U:=U.ext a3;replace O:=O.ext a3;replace E:=E.ext a3;replace f:=f.ext a3;replace X:=X.ext a3
   clear a3;refine C1 Mv (C1 Px (C1 Px (C1 Px (C1 Pa (C1 Pa (C1 Pa (cT (Ah (cS (C1 Mv (C1 Pt ?_)))))))))));refine cT (AR rfl (Am (Ae (cS (C1 Mv ?_)))));refine eQ rfl (HP.out _ Ag Ag) ?_;rintro _ fs ⟨dp,⟨dq,⟨dr,⟨ds,⟨dt,⟨du,⟨⟨⟩,⟨be,⟨bf,⟨ft,a4⟩⟩⟩⟩⟩⟩⟩⟩⟩⟩;have fv:=a4.size;replace U:=U.ext a4;replace O:=O.ext a4;replace E:=E.ext a4;replace f:=f.ext a4;replace X:=X.ext a4;clear a4;refine C1 Mv (C1 Px (C1 Px (C1 Px ?_)));refine Bm [_,_,_,_,_,_] Ci rfl rfl ?_;intro fw c6 an;refine D3 [_,_,_,_,_,_] Ac rfl rfl rfl rfl rfl rfl an rfl ?_;clear an;clear c6;intro fx an;have bg:=an.blk;dsimp only at bg;have ao:=an.ext;have fy:=an.pos;have fz:=an.size;clear an;replace be:=cG be ao;replace bf:=bf.ext ao;replace U:=U.ext ao;replace O:=O.ext ao;replace E:=E.ext ao;replace f:=f.ext ao;replace X:=X.ext ao;clear ao;refine C1 Pa (C1 Pa (cT (Ah (cS (C1 Mv (C1 V2 (cT (D2 rfl (not_not_intro rfl) (Am (Ae (cS ?_)))))))))));refine AJ [_,_,_,_,_,_] Ac rfl rfl rfl bg rfl rfl rfl ?_;refine cC rfl (HR.out _ _ _ _ _ _ _ _ Ag Ag) ?_;rintro _ f0 ⟨⟨⟩,V⟩;have f1:=V.size;replace bg:=bg.ext V;replace be:=cG be V;replace bf:=bf.ext V
   replace U:=U.ext V;replace O:=O.ext V;replace E:=E.ext V;replace f:=f.ext V;replace X:=X.ext V;clear V;refine C1 Mv (C1 Px (C1 Px (C1 Pa (C1 Pa (cT (Ah (cS (C1 Mv (C1 V2 (C1 Mv (G2 ?_)))))))))));refine C1 Mv (G2 (C1 Mv (G2 (C1 V9 (C1 T0 (cT (KY (cS (C1 (BU [_,_,_,_,_,_,_,_,_,_,_,_] Ac Ci rfl rfl rfl rfl) ?_)))))))));refine eS [_,_,_,_,_,_,_,_,_,_,_,_] O ?_;intro f2 c7 ap f3;clear O;replace bg:=bg.fr ap Aa;replace be:=dL be ap Aa;replace bf:=bf.fr ap Aa;replace U:=U.fr ap Aa;replace E:=E.fr ap Aa;replace f:=f.fr ap Aa;replace X:=X.fr ap Aa;clear ap;refine C1 Pa (C1 Pa (cT (AY (Ar (CH rfl Ac rfl rfl rfl c7 rfl rfl rfl ?_)))))
   exact ⟨rfl,X⟩
 rw [AC (fun h=>h hx)] at hq;rw [hx] at HR;have ii:=Vw ca;have HV:=Z2 (fun S va vc pa pc ma mc w1 h=>EN ⟨nm,po,fu,⟨bv,bl,bi⟩,g⟩ ⟨by simp only;omega,cg,by simp only;omega⟩ S va vc pa pc ma mc w1 h);clear hx ca cg
 rcases (Classical.em (EX.valid ⟨nm,po,fu,⟨bv,bl,bi⟩,g⟩)).symm with hv|hv
 . rw [AX hv] at hq;rw [decide_eq_false hv] at HV;subst hq;clear hv;refine Ad func37 ntmps37 rfl rfl ?_
   refine cS ?_;refine eA [_,_,_,_,_,_,_,_,_,_,_,_] ?_;intro ij ik F ci il im;replace E:=E.ext ci;replace f:=f.ext ci;replace X:=X.ext ci;clear ci;refine C1 Pa (C1 Pa (cN (C1 Mv ?_)));refine cC rfl (HC.out _ Ag) ?_;rintro _ f4 ⟨⟨⟩,b6⟩;have f5:=b6.size;replace F:=F.ext b6;replace E:=E.ext b6;replace f:=f.ext b6;replace X:=X.ext b6;clear b6;refine C1 Mv (C1 Px (C1 Px (C1 Px (C1 Pa (C1 Pa (C1 Pa (cT (Ah (cS (C1 Mv (C1 Pt ?_)))))))))));refine cT (AR rfl (Am (Ae (cS (C1 Mv ?_)))));refine cC rfl (HH.out _ Ag Ag) ?_;rintro _ f6 ⟨⟨⟩,bh⟩;have f7:=bh.size;replace F:=F.ext bh;replace E:=E.ext bh;replace f:=f.ext bh;replace X:=X.ext bh;clear bh;refine C1 Mv (C1 Px (C1 Px (C1 Px ?_)));refine Bm [_,_,_,_,_,_,_,_,_,_,_,_] Ci rfl rfl ?_;intro f8 c8 cp;refine eI [_,_,_,_,_,_,_,_,_,_,_,_] cp ?_;clear cp c8;intro f9 Y bt ga gb;replace F:=F.ext bt;replace E:=E.ext bt;replace f:=f.ext bt;replace X:=X.ext bt;clear bt;refine C1 Pa (C1 Pa (cT (Ah (cS (C1 Mv (C1 Pt (cT (AR rfl (Am (Ae (cS ?_)))))))))));refine C1 Mv (C1 Mv (cC rfl (HK.out _) ?_));rintro _ gc ⟨⟨⟩,a5⟩;have gd:=a5.size;replace Y:=Y.ext a5;replace F:=F.ext a5;replace E:=E.ext a5;replace f:=f.ext a5;replace X:=X.ext a5
   clear a5;refine C1 Mv (C1 Px (C1 Px (C1 Px (C1 Pa (C1 Pa (C1 Pa (cT (Ah (cS (C1 Mv (C1 Pt ?_)))))))))));refine cT (AR rfl (Am (Ae (cS (C1 Mv ?_)))));refine eQ rfl (HP.out _ Ag Ag) ?_;rintro _ gf ⟨dv,⟨dw,⟨dx,⟨dy,⟨dz,⟨d0,⟨⟨⟩,⟨Z,⟨aa,⟨gg,a6⟩⟩⟩⟩⟩⟩⟩⟩⟩⟩;have gh:=a6.size;replace Y:=Y.ext a6;replace F:=F.ext a6;replace E:=E.ext a6;replace f:=f.ext a6;replace X:=X.ext a6;clear a6;refine C1 Mv (C1 Px (C1 Px (C1 Px ?_)));refine Bm [_,_,_,_,_,_] Ci rfl rfl ?_;intro gi c9 aq;refine D3 [_,_,_,_,_,_] Ac rfl rfl rfl rfl rfl rfl aq rfl ?_;clear aq;clear c9;intro gj aq;have M:=aq.blk;dsimp only at M;have ar:=aq.ext;have gk:=aq.pos;have gl:=aq.size;clear aq;replace Z:=cG Z ar;replace aa:=aa.ext ar;replace Y:=Y.ext ar;replace F:=F.ext ar;replace E:=E.ext ar;replace f:=f.ext ar;replace X:=X.ext ar;clear ar;refine C1 Pa (C1 Pa (cT (Ah (cS (C1 Mv (C1 V2 (cT (D2 rfl (not_not_intro rfl) (Am (Ae (cS ?_)))))))))));refine AJ [_,_,_,_,_,_] Ac rfl rfl rfl M rfl rfl rfl ?_;refine cC rfl (HR.out _ _ _ _ _ _ _ _ Ag Ag) ?_;rintro _ gm ⟨⟨⟩,ab⟩;have gn:=ab.size;replace M:=M.ext ab;replace Z:=cG Z ab;replace aa:=aa.ext ab
   replace Y:=Y.ext ab;replace F:=F.ext ab;replace E:=E.ext ab;replace f:=f.ext ab;replace X:=X.ext ab;clear ab;refine C1 Mv (C1 Px (C1 Px (C1 Pa (C1 Pa (cT (Ah (cS (C1 Mv (C1 V2 (C1 Mv (G2 ?_)))))))))));refine C1 Mv (G2 (C1 Mv (G2 (C1 V9 (C1 T0 (cT (D2 rfl (not_not_intro rfl) (Am (Ae (cS (AJ [_,_,_,_,_,_] Ac rfl rfl rfl M rfl rfl rfl ?_)))))))))));refine C1 Pf ?_;refine eV [_,_,_,_,_,_] [_,_,_,_,_,_,_,_,_,_,_,_] Y ?_;intro go bu au gp;clear Y;replace M:=M.fr au Aa;replace Z:=dL Z au Aa;replace aa:=aa.fr au Aa;replace F:=F.fr au Aa;replace E:=E.fr au Aa;replace f:=f.fr au Aa;replace X:=X.fr au Aa;clear au;refine cT (Ah (cS (AJ [_,_,_,_,_,_,_,_,_,_,_,_] Ac rfl rfl rfl bu rfl rfl rfl ?_)));refine cC rfl (HV.out _ _ _ _ _ _ _ _ ⟨Ag,Ag,Ag⟩) ?_;rintro _ gq ⟨⟨⟩,ac⟩;have gr:=ac.size;replace bu:=bu.ext ac;replace M:=M.ext ac;replace Z:=cG Z ac;replace aa:=aa.ext ac;replace F:=F.ext ac;replace E:=E.ext ac;replace f:=f.ext ac;replace X:=X.ext ac;clear ac;refine C1 Pt (cT (BY rfl (cS (C1 (BU [_,_,_,_,_,_,_,_,_,_,_,_] Ac Ci rfl rfl rfl rfl) ?_))));refine eS [_,_,_,_,_,_,_,_,_,_,_,_] F ?_
   intro gs da av gt;clear F;replace bu:=bu.fr av Aa;replace M:=M.fr av Aa;replace Z:=dL Z av Aa;replace aa:=aa.fr av Aa;replace E:=E.fr av Aa;replace f:=f.fr av Aa;replace X:=X.fr av Aa;clear av;refine C1 Pa (C1 Pa (cT (AY (Ar (CH rfl Ac rfl rfl rfl da rfl rfl rfl ?_)))))
   exact ⟨rfl,X⟩
 rw [AC (fun h=>h hv)] at hq;rw [decide_eq_true hv] at HV;subst hq;clear hv;refine Ad func37 ntmps37 rfl rfl ?_
 refine cS ?_;refine eA [_,_,_,_,_,_,_,_,_,_,_,_] ?_;intro io ip L cj iq ir;replace E:=E.ext cj;replace f:=f.ext cj;replace X:=X.ext cj;clear cj;refine C1 Pa (C1 Pa (cN (C1 Mv ?_)));refine cC rfl (HC.out _ Ag) ?_;rintro _ gu ⟨⟨⟩,b7⟩;have gv:=b7.size;replace L:=L.ext b7;replace E:=E.ext b7;replace f:=f.ext b7;replace X:=X.ext b7;clear b7;refine C1 Mv (C1 Px (C1 Px (C1 Px (C1 Pa (C1 Pa (C1 Pa (cT (Ah (cS (C1 Mv (C1 Pt ?_)))))))))));refine cT (AR rfl (Am (Ae (cS (C1 Mv ?_)))));refine cC rfl (HH.out _ Ag Ag) ?_;rintro _ gw ⟨⟨⟩,bj⟩;have gx:=bj.size;replace L:=L.ext bj;replace E:=E.ext bj;replace f:=f.ext bj;replace X:=X.ext bj;clear bj;refine C1 Mv (C1 Px (C1 Px (C1 Px ?_)));refine Bm [_,_,_,_,_,_,_,_,_,_,_,_] Ci rfl rfl ?_;intro gy db cq;refine eI [_,_,_,_,_,_,_,_,_,_,_,_] cq ?_;clear cq db;intro gz ad bw g0 g1;replace L:=L.ext bw;replace E:=E.ext bw;replace f:=f.ext bw;replace X:=X.ext bw;clear bw;refine C1 Pa (C1 Pa (cT (Ah (cS (C1 Mv (C1 Pt (cT (AR rfl (Am (Ae (cS ?_)))))))))));refine C1 Mv (C1 Mv (cC rfl (HK.out _) ?_));rintro _ g2 ⟨⟨⟩,a7⟩;have g3:=a7.size;replace ad:=ad.ext a7;replace L:=L.ext a7;replace E:=E.ext a7;replace f:=f.ext a7;replace X:=X.ext a7
 clear a7;refine C1 Mv (C1 Px (C1 Px (C1 Px (C1 Pa (C1 Pa (C1 Pa (cT (Ah (cS (C1 Mv (C1 Pt ?_)))))))))));refine cT (AR rfl (Am (Ae (cS (C1 Mv ?_)))));refine eQ rfl (HP.out _ Ag Ag) ?_;rintro _ g4 ⟨d1,⟨d2,⟨d3,⟨d4,⟨d5,⟨d6,⟨⟨⟩,⟨ae,⟨af,⟨g5,a8⟩⟩⟩⟩⟩⟩⟩⟩⟩⟩;have g6:=a8.size;replace ad:=ad.ext a8;replace L:=L.ext a8;replace E:=E.ext a8;replace f:=f.ext a8;replace X:=X.ext a8;clear a8;refine C1 Mv (C1 Px (C1 Px (C1 Px ?_)));refine Bm [_,_,_,_,_,_] Ci rfl rfl ?_;intro g7 dc aw;refine D3 [_,_,_,_,_,_] Ac rfl rfl rfl rfl rfl rfl aw rfl ?_;clear aw;clear dc;intro g8 aw;have N:=aw.blk;dsimp only at N;have ax:=aw.ext;have g9:=aw.pos;have ha:=aw.size;clear aw;replace ae:=cG ae ax;replace af:=af.ext ax;replace ad:=ad.ext ax;replace L:=L.ext ax;replace E:=E.ext ax;replace f:=f.ext ax;replace X:=X.ext ax;clear ax;refine C1 Pa (C1 Pa (cT (Ah (cS (C1 Mv (C1 V2 (cT (D2 rfl (not_not_intro rfl) (Am (Ae (cS ?_)))))))))));refine AJ [_,_,_,_,_,_] Ac rfl rfl rfl N rfl rfl rfl ?_;refine cC rfl (HR.out _ _ _ _ _ _ _ _ Ag Ag) ?_;rintro _ hc ⟨⟨⟩,ag⟩;have hd:=ag.size;replace N:=N.ext ag;replace ae:=cG ae ag;replace af:=af.ext ag
 replace ad:=ad.ext ag;replace L:=L.ext ag;replace E:=E.ext ag;replace f:=f.ext ag;replace X:=X.ext ag;clear ag;refine C1 Mv (C1 Px (C1 Px (C1 Pa (C1 Pa (cT (Ah (cS (C1 Mv (C1 V2 (C1 Mv (G2 ?_)))))))))));refine C1 Mv (G2 (C1 Mv (G2 (C1 V9 (C1 T0 (cT (D2 rfl (not_not_intro rfl) (Am (Ae (cS (AJ [_,_,_,_,_,_] Ac rfl rfl rfl N rfl rfl rfl ?_)))))))))));refine C1 Pf ?_;refine eV [_,_,_,_,_,_] [_,_,_,_,_,_,_,_,_,_,_,_] ad ?_;intro hf bk ay hg;clear ad;replace N:=N.fr ay Aa;replace ae:=dL ae ay Aa;replace af:=af.fr ay Aa;replace L:=L.fr ay Aa;replace E:=E.fr ay Aa;replace f:=f.fr ay Aa;replace X:=X.fr ay Aa;clear ay;refine cT (Ah (cS (AJ [_,_,_,_,_,_,_,_,_,_,_,_] Ac rfl rfl rfl bk rfl rfl rfl ?_)));refine cC rfl (HV.out _ _ _ _ _ _ _ _ ⟨Ag,Ag,Ag⟩) ?_;rintro _ hh ⟨⟨⟩,ah⟩;have hi:=ah.size;replace bk:=bk.ext ah;replace N:=N.ext ah;replace ae:=cG ae ah;replace af:=af.ext ah;replace L:=L.ext ah;replace E:=E.ext ah;replace f:=f.ext ah;replace X:=X.ext ah;clear ah;refine C1 Pt (cT (AR rfl (Am (Ae (cS (AJ [_,_,_,_,_,_,_,_,_,_,_,_] Ac rfl rfl rfl bk rfl rfl rfl (C1 Mv ?_)))))))
 refine eS [_,_,_,_,_,_,_,_,_,_,_,_] L ?_;intro hj dd az hl;clear L;replace bk:=bk.fr az Aa;replace N:=N.fr az Aa;replace ae:=dL ae az Aa;replace af:=af.fr az Aa;replace E:=E.fr az Aa;replace f:=f.fr az Aa;replace X:=X.fr az Aa;clear az;refine C1 Pa (C1 Pa (cT (AY (CH rfl Ac rfl rfl rfl dd rfl rfl rfl ?_))))
 exact ⟨_,_,_,_,_,_,rfl,⟨PG.sits.wide Ag (fun b h=>by omega),PDsC.wide Ag (fun b h=>by omega),Ag⟩,X⟩
def OwnL.exs {w:wD} {B e:Nat} {a:oA} {len cap:Nat} {xs:List EX} {S:nP} (h:OwnL KL w B e (.slice a len cap) xs) (E : ∀b,B<=b->S b):EXs S w xs a:=by
 by_cases F:xs=[]
 . exact Z6 F
 . obtain ⟨g,L,M,N,f⟩:=h.rows F;simp only [aS] at M;obtain ⟨rfl,-,-⟩:=M;refine aA ⟨g,0,rfl,E g N,fun i x O=>?_⟩;obtain ⟨cs,U,V,X,Y,Z,ma,mc,rfl,h2⟩:=f i x O;exact ⟨V,X,Y,Z,ma,mc,by simpa [KL] using U,h2.wide (fun b hb=>E b hb.1)⟩
def ReadOk (x:EX) (rest:lB) (w:wD):Ending->wD->Prop:=fun e w'=> ∃va vc pa pc ma mc,e = .returned (.tuple #[.agg #[str x.name,.int .i64 x.points,.int .i64 x.fuel,.int .i64 x.box.v,.int .i64 x.box.l,.int .i64 x.box.i,.slice va x.g.vars.length vc,.slice pa x.g.procs.length pc,.int .u8 x.g.main.kind,.int .i64 x.g.main.num,str x.g.main.name,.slice ma x.g.main.kids.length mc],str rest,.int .i64 0])/\x.sits (w.heap.size <= ·) w' va pa ma vc/\Ext w w'
def ReadOk.ret {x:EX} {rest:lB} {w w':wD} {e:Ending} (h:ReadOk x rest w e w') : ∃v,e = .returned v:=by
 obtain ⟨_,_,_,_,_,_,h,-⟩:=h;exact ⟨_,h⟩
def XB {s:lB} {x:EX} {rest:lB} (h:FR s = .ok (x,rest)) (f:s.length<=100000) (w:wD) (E:Errs2 w) (F:TabsF w):Calls prog 37 #[str s] w (ReadOk x rest w):=by
 have:=Vx s f w E F;rw [h] at this;exact this
def Vy {s:lB} {k:Int} (h:FR s = .error k) (f:s.length<=100000) (w:wD) (E:Errs2 w) (F:TabsF w):Calls prog 37 #[str s] w fun e w'=>e = .returned (.tuple #[.agg #[str [],.int .i64 0,.int .i64 0,.int .i64 0,.int .i64 0,.int .i64 0,.slice none 0 0,.slice none 0 0,.int .u8 0,.int .i64 0,str [],.slice none 0 0],str [],.int .i64 k])/\Ext w w':=by
 have:=Vx s f w E F;rw [h] at this;exact this
def No {s:lB} {k:Int} (h:FR s = .error k):k=3\/k=4:=by
 unfold FR at h;split at h
 . injection h with h;omega
 split at h
 . injection h with h;omega
 split at h
 . injection h with h;omega
 split at h
 . injection h with h;omega
 split at h
 . injection h with h;omega
 split at h
 . injection h with h;omega
 . cases h
def Rz {s:lB} {x:EX} {rest:lB} (h:FR s = .ok (x,rest)):rest.length<=s.length/\x.valid:=by
 unfold FR at h;split at h
 . cases h
 split at h
 . cases h
 split at h
 . cases h
 split at h
 . cases h
 split at h
 . cases h
 split at h
 . cases h
 rename_i f;injection h with h
 injection h with h1 h2
 subst h1 h2;have:=On (CK s).2.1 (CM (BG (CK s).1) 5).toNat;have:=Ry s;exact ⟨Aa,Classical.not_not.1 f⟩
noncomputable def BH:Nat->List EX->Nat->lB->List EX×Int×Int
 | 0,_,_,_=>([],0,0)
 | n+1,acc,line,s=>
  if s=[] then (acc,0,0) else if acc.length=100 then ([],line,5) else match FR s with
  | .error k=>([],line,k)
  | .ok (x,rest)=>if Gn acc x.name=true then ([],line,22) else BH n (acc++[x]) (line+Lib.countByte (s.take (s.length-rest.length)) 10) rest
noncomputable def EP (s:lB):List EX×Int×Int:=if 65536<s.length then ([],0,5) else BH 101 [] 1 s
def ParE (q:List EX×Int×Int) (w:wD):Ending->wD->Prop:=fun e w'=> ∃a c,e = .returned (.tuple #[.slice a q.1.length c,.int .i64 q.2.1,.int .i64 q.2.2])/\q.1.length<=c/\EXs (w.heap.size <= ·) w' q.1 a/\Ext w w'
def ParE.ret {q:List EX×Int×Int} {w w':wD} {e:Ending} (h:ParE q w e w') : ∃v,e = .returned v:=by
 obtain ⟨_,_,h,-⟩:=h;exact ⟨_,h⟩
set_option maxHeartbeats 8000000 in
def Np (s:List UInt8) (hs:s.length<=9223372036854775807) (w:World) (M:Errs2 w) (L:TabsF w) :
 Calls prog 18 #[str s] w (ParE (EP s) w):=by
 have X:=cB w;have bz:=L.g
 unfold EP
 rcases (Decidable.em (65536<s.length)) with hl|hl
 . rw [AX hl];refine Ad func18 ntmps18 rfl rfl ?_
   refine cS (C1 Pa (C1 Pa (C1 Pa (cT (Ah (cS (C1 Mv (C1 Py (C1 V5 (cT (Ub ?_)))))))))));refine cS (C1 Pa (C1 Pa (C1 Pa (cT (AY (Ar (ER rfl rfl rfl rfl ?_)))))))
   exact ⟨_,_,rfl,aC _,Z6 rfl,X⟩
 rw [AC hl];refine Ad func18 ntmps18 rfl rfl ?_
 refine cS (C1 Pa (C1 Pa (C1 Pa (cT (Ah (cS (C1 Mv (C1 Py (C1 V5 (cT (F5 ?_)))))))))));refine Am (Ae (cS (C1 Pa (cN (C1 Pa (cT ?_))))))
 refine Ah (At ?_);refine AK (ι:=List UInt8×List EX×Option Addr×Nat×Nat) (fun x=>[(0,str x.1),(5,.slice x.2.2.1 x.2.1.length x.2.2.2.1),(6,.int .i64 x.2.2.2.2)])
  (fun x w'=>x.2.1.length<=100/\x.2.2.2.2+x.1.length<=65537/\BH 101 [] 1 s=BH (101-x.2.1.length) x.2.1 x.2.2.2.2 x.1/\OwnL KL w' w.heap.size 36 (.slice x.2.2.1 x.2.1.length x.2.2.2.1) x.2.1/\Errs2 w'/\TabsF w'/\Ext w w')
  (fun x=>100-x.2.1.length) (s,[],none,0,1) sB ⟨by simp only [Z4];omega,by simp only;omega,rfl,OwnL.nil,M,L,X⟩ ?_
 clear M L X;rintro ⟨t,acc,a,cap,line⟩ w1 ⟨aq,ar,he,f,M,L,X⟩;simp only at aq ar he f;rw [he];clear he hl hs
 generalize s=s0 at *
 have hz:=X.size;refine CW.sub (m:=[(0,str t),(5,.slice a acc.length cap),(6,.int .i64 line)]) ?_ sB;obtain ⟨m,hm⟩ : ∃m,101-acc.length=m+1:=⟨100-acc.length,Aa⟩;rw [hm]
 by_cases h0:t=[]
 . rw [show BH (m+1) acc line t=(acc,0,0) from by rw [BH,AX h0]];subst h0
   refine Ah (cS (C1 Mv (C1 V9 (cT (VQ (C3 (AG (AG (Bd (Ae (cS ?_)))))))))));refine C1 Mv (C1 Pa (C1 Pa (C1 Pa (cT (AY (ER rfl rfl rfl rfl ?_))))))
   exact ⟨_,_,rfl,OwnL.cap f,OwnL.exs f (fun b h=>h),X⟩
 by_cases h1:acc.length=100
 . rw [show BH (m+1) acc line t=([],(line:Int),5) from by rw [BH,AC h0,AX h1]]
   refine Ah (cS (C1 Mv (C1 V9 (cT (KY (Am (Ae (At (Ah (cS (C1 Mv ?_)))))))))));refine C1 Pz (C1 V1 (cT (Ub (cS (C1 Mv (C1 Pa (C1 Pa (C1 Pa (cT (AY (Ar ?_)))))))))));refine AH (Ar (AH (Ar (ER rfl rfl rfl rfl ?_))))
   exact ⟨_,_,rfl,aE _,Z6 rfl,X⟩
 cases hr:FR t with
 | error k=>
  rw [show BH (m+1) acc line t=([],(line:Int),k) from by rw [BH,AC h0,AC h1,hr]];have HR:=Z2 (fun w1 h1 h2=>Vy hr Aa w1 h1 h2);have hk:=No hr;clear hr
  refine Ah (cS (C1 Mv (C1 V9 (cT (KY (Am (Ae (At (Ah (cS (C1 Mv ?_)))))))))));refine C1 Pz (C1 V1 (cT (F5 (Am (Ae (cS (C1 Mv ?_)))))));refine cC rfl (HR.out _ Ag Ag) ?_;rintro _ b0 ⟨⟨⟩,ac⟩;have b1:=ac.size;replace f:=f.ext ac;replace M:=M.ext ac;replace L:=L.ext ac;replace X:=X.ext ac;clear ac;refine C1 Mv (C1 Px (C1 Px (C1 Px ?_)));refine Bm [_,_,_,_,_,_,_,_,_,_,_,_] Ci rfl rfl ?_;intro b2 au ak;refine eI [_,_,_,_,_,_,_,_,_,_,_,_] ak ?_;clear ak au;intro b3 b4 af ax ay;replace f:=f.ext af;replace M:=M.ext af;replace L:=L.ext af;replace X:=X.ext af;clear af;refine C1 Pa (C1 Pa (cT (Ah (cS (C1 Mv (C1 V1 (C1 Mv (XQ (XQ (XQ (XQ ?_)))))))))));refine C1 Mb (cT (AR rfl (Am (Ae (Ah (cS (C1 Mv (C1 V2 (cT (Ub (cS ?_)))))))))));refine C1 Mv (C1 Mv (C1 Pa (C1 Pa (C1 Pa (cT (AY (Ar (AH (Ar (AH (Ar ?_)))))))))));refine ER rfl rfl rfl rfl ?_
  exact ⟨_,_,rfl,aE _,Z6 rfl,X⟩
 | ok q=>
  obtain ⟨x,rest⟩:=q;have HR:=Z2 (fun w1 h1 h2=>XB hr Aa w1 h1 h2);have b5:=(Rz hr).1;have HH:=Z2 (fun w1 h=>X0 acc Aa x.name (fun b=>w.heap.size<=b) a cap w1 h)
  cases hh:Gn acc x.name with
  | true=>
   rw [show BH (m+1) acc line t=([],(line:Int),22) from by rw [BH,AC h0,AC h1,hr];exact AX hh];rw [hh] at HH;clear hr hh
   refine Ah (cS (C1 Mv (C1 V9 (cT (KY (Am (Ae (At (Ah (cS (C1 Mv ?_)))))))))));refine C1 Pz (C1 V1 (cT (F5 (Am (Ae (cS (C1 Mv ?_)))))));refine eQ rfl (HR.out _ Ag Ag) ?_;rintro _ b6 ⟨az,⟨a0,⟨a1,⟨a2,⟨a3,⟨a4,⟨⟨⟩,⟨ah,ad⟩⟩⟩⟩⟩⟩⟩⟩;have a5:=ad.size;replace f:=f.ext ad;replace M:=M.ext ad;replace L:=L.ext ad;replace X:=X.ext ad;clear ad;refine C1 Mv (C1 Px (C1 Px (C1 Px ?_)));refine Bm [_,_,_,_,_,_,_,_,_,_,_,_] Ci rfl rfl ?_;intro a6 al ai;refine eI [_,_,_,_,_,_,_,_,_,_,_,_] ai ?_;clear ai al;intro a7 ag V a8 a9;replace ah:=cK ah V;replace f:=f.ext V;replace M:=M.ext V;replace L:=L.ext V;replace X:=X.ext V;clear V;refine C1 Pa (C1 Pa (cT (Ah (cS (C1 Mv (C1 V1 (C1 Mv (FJ (C1 Mv (FJ (C1 Pg ?_)))))))))));refine FJ (C1 (Pl ag) (FJ (cC rfl (HH.out _ (OwnL.exs f (fun b h=>h))) ?_)));rintro _ ba ⟨⟨⟩,E⟩;have bb:=E.size;replace ag:=ag.ext E;replace ah:=cK ah E;replace f:=f.ext E;replace M:=M.ext E;replace L:=L.ext E;replace X:=X.ext E;clear E;refine C1 RK (cT (BY rfl (Aj (C1 Pa (cT (Ah (cS (C1 Mv (C1 V2 (cT (Zt ?_)))))))))));refine cS (C1 Mv (C1 Mv (C1 Pa (C1 Pa (C1 Pa (cT (AY (Ar (AH (Ar (AH ?_)))))))))))
   refine Ar (ER rfl rfl rfl rfl ?_)
   exact ⟨_,_,rfl,aE _,Z6 rfl,X⟩
  | false=>
   rw [show BH (m+1) acc line t=BH m (acc++[x]) (line+Lib.countByte (t.take (t.length-rest.length)) 10) rest from by rw [BH,AC h0,AC h1,hr];exact AC (by rw [hh];decide)];rw [hh] at HH
   have av : ∀g,(bI a acc.length cap).ownBlock=some g->g<w1.heap.size:=fun g h=>f.lt h
   have aw:=L2 (t.take (t.length-rest.length));rw [bB] at aw
   have HN:Hid (∀w1,Calls prog 33 #[str (t.take ((t.length:Int)-(rest.length:Int)).toNat),str [10]] w1 fun e w'=>e = .returned (.int .i64 (Lib.countByte (t.take (t.length-rest.length)) 10:Nat))/\w'=w1):=Z2 fun w1=>by
    rw [show ((t.length:Int)-(rest.length:Int)).toNat=t.length-rest.length from by omega]
    exact JR _ _
   clear hr hh
   generalize Lib.countByte (t.take (t.length-rest.length)) 10=N at *
   refine Ah (cS (C1 Mv (C1 V9 (cT (KY (Am (Ae (At (Ah (cS (C1 Mv ?_)))))))))));refine C1 Pz (C1 V1 (cT (F5 (Am (Ae (cS (C1 Mv ?_)))))));refine eQ rfl (HR.out _ Ag Ag) ?_;rintro _ b7 ⟨bc,⟨bd,⟨be,⟨bf,⟨bg,⟨bh,⟨⟨⟩,⟨ab,ae⟩⟩⟩⟩⟩⟩⟩⟩;have bi:=ae.size;replace f:=f.ext ae;replace M:=M.ext ae;replace L:=L.ext ae;replace X:=X.ext ae;clear ae;refine C1 Mv (C1 Px (C1 Px (C1 Px ?_)));refine Bm [_,_,_,_,_,_,_,_,_,_,_,_] Ci rfl rfl ?_;intro bj am aj;refine eI [_,_,_,_,_,_,_,_,_,_,_,_] aj ?_;clear aj am;intro bk O Y bl bm;replace ab:=cK ab Y;replace f:=f.ext Y;replace M:=M.ext Y;replace L:=L.ext Y;replace X:=X.ext Y;clear Y;refine C1 Pa (C1 Pa (cT (Ah (cS (C1 Mv (C1 V1 (C1 Mv (FJ (C1 Mv (FJ (C1 Pg ?_)))))))))));refine FJ (C1 (Pl O) (FJ (cC rfl (HH.out _ (OwnL.exs f (fun b h=>h))) ?_)));rintro _ bn ⟨⟨⟩,F⟩;have bo:=F.size;replace O:=O.ext F;replace ab:=cK ab F;replace f:=f.ext F;replace M:=M.ext F;replace L:=L.ext F;replace X:=X.ext F;clear F;refine C1 RK (cT (AR rfl (Am (Ae (Ah (cS (C1 Mv (C1 V2 (cT (VQ (Am ?_)))))))))));refine Ae (cS (C1 Mv (AJ [_,_,_,_,_,_,_,_,_,_,_,_] Ac rfl rfl rfl O rfl rfl rfl ?_)));refine Ax (DB [_,_,_,_,_,_,_,_,_,_,_,_] Ac Ci rfl rfl rfl rfl rfl rfl rfl rfl rfl) rfl ?_ aFh
   rintro _ bp ⟨bq,rfl,Z,an⟩;clear an;have ao:=Z.blk;have U:=Z.ext;have br:=Z.pos;have bs:=Z.size;clear Z;replace O:=O.ext U;replace ab:=cK ab U;replace f:=f.ext U;replace M:=M.ext U;replace L:=L.ext U;replace X:=X.ext U;clear U;refine BM (sh:=KL) Ac Ci rfl rfl rfl rfl Bo rfl rfl rfl f (Blk.row Ag) ⟨_,_,_,_,_,_,rfl,EX.sits.wide Ag (fun b h=>⟨Aa,fun e=>by have:=av _ e;omega⟩)⟩ Aa Aa rfl ?_;rintro bt ap bu bv aa;have bw:=aa.size;clear ao O ab f;replace M:=M.fr aa Aa;replace L:=L.fr aa Aa;replace X:=X.fr aa Aa;clear aa;refine C1 Pa (cN (C1 Mv (C1 Mv (C1 Mv (C1 Py (C1 Mv (C1 Py ?_)))))));refine C1 (Cw rfl rfl (aQ _ Aa)) ?_;refine C1 (My Ac rfl rfl rfl Aa Aa) ?_;refine cC rfl (HN.out _) ?_;rintro _ bx ⟨⟨⟩,rfl⟩;refine C1 V7 (C1 Pa (cT (Aj (C1 Mv (C1 Pa (Ai (Af ?_)))))))
   refine Ay (rest,acc++[x],some ⟨_,0,none⟩,_,line+N) sB ⟨by simp only [ZZ,Z1,Z4];omega,by simp only;omega,by simp only [ZZ,Z1,Z4];rw [show 101-(acc.length+(0+1))=m from by omega],Ag,Ag,Ag,X⟩ (by simp only [ZZ,Z1,Z4];omega)
def awText:lB:=[101,120,101,114,99,105,115,101,32,105,110,99,32,112,111,105,110,116,115,32,53,32,102,117,101,108,32,49,48,48,32,118,97,108,117,101,32,50,32,108,101,110,103,116,104,32,48,32,105,110,112,117,116,32,48,32,108,105,110,101,115,32,52,10,105,110,116,32,120,10,109,97,105,110,32,123,10,9,120,32,43,61,32,49,59,10,125,10]
def ZV:PG:=⟨[⟨[120],1,0⟩],[],.mk 57 0 [] [.mk 40 0 [] [.mk 2 0 [120] [],.mk 1 1 [] []]]⟩
def awE:EX:=⟨[105,110,99],5,100,⟨2,0,0⟩,ZV⟩
def Ql:awE.valid:=of_decide_eq_true Bo
def Vz:EP awText=([awE],0,0):=by kernel_rfl
def XC:awE.text=awText:=by kernel_rfl
def VA:EC [awE]=(awText,0):=by
 have E:EF [awE]=awText:=by unfold EF;rw [List.flatMap_cons,List.flatMap_nil,List.append_nil,XC]
 have F : ¬L1 [awE]:=by
  rintro ⟨i,L,e,f,h⟩;simp only [Z1,Z4] at L;obtain rfl:i=0:=by omega
  simp [Gn] at h
 rw [JT Au (fun e f=>by rw [bW] at f;rw [f];exact Ql) F (by rw [E];decide),E]
def Yc:awE.wf:=by
 refine ⟨?_,?_,?_⟩
 . decide
 . exact E9 (awText.drop 64) Au Bo
 . decide
def AwR (w:wD):Ending->wD->Prop:=fun e w'=> ∃b o va vc pa pc ma mc c,e = .returned (.tuple #[.slice (some ⟨b,o,none⟩) 1 c,.int .i64 0,.int .i64 0])/\Row w' ⟨b,o,none⟩ [str [105,110,99],.int .i64 5,.int .i64 100,.int .i64 2,.int .i64 0,.int .i64 0,.slice va 1 vc,.slice pa 0 pc,.int .u8 57,.int .i64 0,str [],.slice ma 1 mc]/\awE.sits (w.heap.size <= ·) w' va pa ma vc/\1<=c/\EXs (w.heap.size <= ·) w' [awE] (some ⟨b,o,none⟩)/\Ext w w'
def AwR.ret {w w':wD} {e:Ending} (h:AwR w e w') : ∃v,e = .returned v:=by
 obtain ⟨_,_,_,_,_,_,_,_,_,h,-⟩:=h;exact ⟨_,h⟩
def ZD (w:wD) (E:Errs2 w) (F:TabsF w):Calls prog 18 #[str awText] w (AwR w):=by
 have h:=Np awText Au w E F;rw [Vz] at h;refine h.mono ?_;rintro e w' ⟨a,c,h1,L,f,X⟩;obtain ⟨b,o,rfl,-,M⟩:=dI f Bn;obtain ⟨N,O,U,V,Y,Z,r,s⟩:=M 0 _ rfl;exact ⟨b,o,N,O,U,V,Y,Z,c,h1,r,s,L,f,X⟩
def AwS (w:wD):Ending->wD->Prop:=fun e w'=> ∃va vc pa pc b o mc n s xa xl xc,e = .returned (.tuple #[.agg #[.slice va 1 vc,.slice pa 0 pc,.int .u8 57,.int .i64 0,str [],.slice (some ⟨b,o,none⟩) 1 mc],.int .i64 0])/\Row w' ⟨b,o,none⟩ [.int .u8 41,.int .i64 n,str s,.slice xa xl xc]/\Ext w w'
def AwS.ret {w w':wD} {e:Ending} (h:AwS w e w') : ∃v,e = .returned v:=by
 obtain ⟨_,_,_,_,_,_,_,_,_,_,_,_,h,-⟩:=h;exact ⟨_,h⟩
def ZW:PG:=⟨[⟨[120],1,0⟩],[],.mk 57 0 [] [.mk 41 0 [] [.mk 2 0 [120] [],.mk 1 1 [] []]]⟩
def Zg:awE.g.pinv=ZW:=by kernel_rfl
def YJ (S:nP) (f:oA) (E:Nat) (F:oA) (Z:Nat) (L:oA) (mc:Nat) (w:wD) (hs:awE.sits S w f F L E) :
 Calls prog 22 #[.agg #[str [105,110,99],.int .i64 5,.int .i64 100,.int .i64 2,.int .i64 0,.int .i64 0,.slice f 1 E,.slice F 0 Z,.int .u8 57,.int .i64 0,str [],.slice L 1 mc]] w (AwS w):=by
 have h:=N9 awE Yc Ql S f E F Z L mc w hs;rw [Zg] at h;refine Calls.mono h ?_;rintro e w' ⟨M,N,O,U,V,Y,h1,h2,-,-,X⟩;have hm:=h2.main;obtain ⟨b,o,xa,xc,rfl,-,r,-⟩:=Zw (show rowSits _ w' [.mk 41 0 [] [.mk 2 0 [120] [],.mk 1 1 [] []]] V from hm);exact ⟨M,N,O,U,b,o,Y,_,_,_,_,_,h1,r,X⟩
def Nq (w:World) (V:Errs2 w) (U:TabsF w):Calls prog 10 #[] w fun e w'=>e = .returned (.bool true)/\Ext w w':=by
 have X:=cB w;have al:=U.g;have HP:=Z2 (fun Z h1 h2=>ZD Z h1 h2);have HR:=Z2 (fun S a c hc Z h1 h2=>Na [awE] (fun e he=>by rw [bW] at he;rw [he];exact Yc) S a c Au hc Z h1 h2);rw [VA] at HR;have HS:=Z2 (fun S va vc pa pc ma mc Z h=>YJ S va vc pa pc ma mc Z h);have am:str awText = .string ⟨awText.toArray⟩:=rfl;refine Ad func10 ntmps10 rfl rfl ?_
 refine cS (C1 Pa (cN (C1 Pa (cN (C1 Mv ?_)))));refine eQ rfl (HP.out _ Ag Ag) ?_;rintro _ an ⟨b1,⟨o2,⟨ao,⟨ap,⟨aq,⟨ar,⟨au,⟨av,⟨c9,⟨⟨⟩,⟨f,⟨M,⟨aw,⟨N,O⟩⟩⟩⟩⟩⟩⟩⟩⟩⟩⟩⟩⟩⟩;have ax:=O.size;replace V:=V.ext O;replace U:=U.ext O;replace X:=X.ext O;clear O;refine C1 Mv (C1 Px (C1 Px (C1 Px (C1 Pa (C1 Pa (C1 Pa (cT (Ah (cS (C1 Mv (C1 V2 ?_)))))))))));refine C1 Mv (G2 (C1 Mv (G2 (C1 V2 (C1 T0 (C1 Mv (G2 (C1 Mv (G2 (C1 Pz (G2 ?_)))))))))));refine C1 V2 (C1 T0 (C1 Mv (G2 (C1 Mv (G2 (C1 Pi (G2 (C1 Pg (G2 (C1 (Pw f) (G2 ?_)))))))))));refine C1 V9 (C1 T0 (C1 Mv (G2 (C1 Mv (G2 (C1 Pi (G2 (C1 Pf (G2 (C1 (Pw f) (G2 ?_)))))))))));refine C1 V2 (C1 T0 (cT (VQ (Am (Ae (cS (C1 Mv ?_)))))));refine cC rfl (HR.out _ _ _ Ag _ Ag Ag) ?_;rintro _ ay ⟨⟨⟩,E⟩;have az:=E.size;replace f:=f.ext E;replace M:=cK M E;replace N:=N.ext E;replace V:=V.ext E;replace U:=U.ext E;replace X:=X.ext E;clear E;refine C1 Mv (C1 Px (C1 Px (C1 Pa (C1 Pa (cN (C1 Mv (C1 Pi (Ee [_,_,_,_,_,_,_,_,_,_,_,_] Ac rfl rfl rfl f rfl rfl rfl ?_))))))));refine eQ rfl (HS.out _ _ _ _ _ _ _ _ Ag) ?_;rintro _ a0 ⟨ad,⟨ae,⟨af,⟨ag,⟨a1,⟨a2,⟨ah,⟨a3,⟨a4,⟨ai,⟨aj,⟨ak,⟨⟨⟩,⟨Y,F⟩⟩⟩⟩⟩⟩⟩⟩⟩⟩⟩⟩⟩⟩;have a5:=F.size;replace f:=f.ext F;replace M:=cK M F
 replace N:=N.ext F;replace V:=V.ext F;replace U:=U.ext F;replace X:=X.ext F;clear F;refine C1 Mv (C1 Px (C1 Px ?_));refine Bm [_,_,_,_,_,_] Ci rfl rfl ?_;intro a6 ac aa;refine eI [_,_,_,_,_,_] aa ?_;clear aa ac;intro a7 ab L a8 a9;replace Y:=Y.ext L;replace f:=f.ext L;replace M:=cK M L;replace N:=N.ext L;replace V:=V.ext L;replace U:=U.ext L;replace X:=X.ext L;clear L;refine C1 Pa (cN (C1 Mv (C1 V1 (C1 Mv (FJ (C1 Mv (FJ (C1 Mv (FJ (C1 V8 (C1 RK ?_)))))))))));refine C1 Mv (FJ (C1 Mv (FJ (C1 V1 (C1 RK (C1 Mv (FJ (C1 Pf (FJ (C1 Pf (FJ ?_)))))))))));refine C1 (Pl ab) (FJ (C1 Pz (FJ (C1 V1 (C1 RK (C1 Mv (FJ (C1 Pf (FJ (C1 Pf (FJ ?_)))))))))));refine C1 (Pl ab) (FJ (C1 Pi (FJ (C1 Pg (FJ (C1 (Pw Y) (FJ (C1 V1 (C1 RK (C1 Pa (cT ?_)))))))))));refine AY (Bb rfl rfl ?_)
 exact ⟨rfl,X⟩
def CntR (d:Nat) (w:wD):Ending->wD->Prop:=fun e w'=> ∃v:Int,e = .returned (.int .i64 v) /\ -1<=v/\v<=1001*d/\Ext w w'
def CntR.ret {d:Nat} {w w':wD} {e:Ending} (h:CntR d w e w') : ∃v,e = .returned v:=by
 obtain ⟨_,h,-⟩:=h;exact ⟨_,h⟩
def Qm : ∀(d:Nat),d<=100 -> ∀(t:Nd) (S:Nat->Prop) (a:Option Addr) (c:Nat) (w:World),t.wf->t.sits S w a->Calls prog 76 #[t.val a c,.int .i64 d] w (CntR d w)
 | 0,_,⟨k,n,s,l⟩,S,a,c,w,M,E=>by
  have X:=cB w;simp only [cO,dB,cX,cV,dC];refine Ad func76 ntmps76 rfl rfl ?_
  refine cS ?_;refine eB [_,_,_,_] ?_;intro b1 w2 h4 x5 p6 z7;replace E:=Nd.sits.ext E x5;replace X:=X.ext x5;clear x5;refine C1 Pa (cT (Ah (cS (C1 Mv (C1 V3 (cT (Zt (cS (C1 Pa (cT (AY ?_)))))))))));refine Ar (Bb rfl rfl ?_)
  exact ⟨_,rfl,Aa,Aa,X⟩
 | d+1,hd,⟨k,n,s,l⟩,S,a,c,w,M,E=>by
  have X:=cB w;simp only [cO,dB,cX,cV,dC];have E:=(KG _ _ E:(Nd.mk k n s l).sits _ w a);simp only [cP] at E;simp only [Nd.wf] at M;have HI:=Z2 (Qm d Aa)
  have af:l.length<=9223372036854775807:=by omega
  have HW:=Z2 (rowWf_iff.1 M.2.2.2.2.2.2);clear M
  have O:((d+1:Nat):Int)=(d:Int)+1:=by omega
  rw [O];refine Ad func76 ntmps76 rfl rfl ?_
  refine cS ?_;refine FI [_,_,_,_] rfl rfl rfl ?_;intro U ag L;have f:=L.blk;have V:=L.ext;have ah:=L.pos;have ai:=L.size;clear L E;replace X:=X.ext V;replace E:=Bk.rowSits.ext E V;clear V;refine C1 Pa (cT (Ah (cS (C1 Mv (C1 V3 (cT (F5 (Am (Ae (cS (C1 Pa ?_)))))))))));refine cT (Ah (cS (C1 Pa (cT ?_))))
  refine At ?_;refine AK (ι:=Nat×Int) (fun x=>[(1,.int .i64 ((d:Int)+1)),(2,.pointer (some ⟨U,0,none⟩)),(5,.int .i64 x.2),(6,.int .i64 x.1)])
   (fun x w'=>x.1<=l.length/\(1<=x.2/\x.2<=1001*((d:Int)+1))/\Blk w' U [.int .u8 k,.int .i64 n,str s,.slice a l.length c]/\rowSits S w' l a/\Ext w w') (fun x=>l.length-x.1) (0,1) sB ⟨aE _,⟨Aa,by simp only;omega⟩,f,E,X⟩ ?_
  clear f E X;rintro ⟨i,v⟩ Y ⟨hi,⟨aa,ab⟩,f,E,X⟩;simp only at hi aa ab;refine CW.sub (m:=[(1,.int .i64 ((d:Int)+1)),(2,.pointer (some ⟨U,0,none⟩)),(5,.int .i64 v),(6,.int .i64 i)]) ?_ sB
  by_cases N:i<l.length
  . obtain ⟨kb,ko,rfl,aj,hk⟩:=B1 E (by intro h;rw [h] at N;simp at N);obtain ⟨xa,xc,rx,sx⟩:=hk i _ (Z0 N);have Z:=HW.out _ (Z8 N);clear hk
    generalize l[i]=x at *
    replace HI:Hid (∀a c Y,x.sits S Y a->Calls prog 76 #[x.val a c,.int .i64 ((d:Int)+1-1)] Y (CntR d Y)):=Z2 fun a c Y h=>by rw [Int.add_sub_cancel];exact HI.out x S a c Y Z h
    clear Z;obtain ⟨xk,xn,xs,xl⟩:=x;simp only [cO,dB,cX,cV,dC,Nd.cells] at rx HI
    focus
     refine Ah (cS (C1 Mv (C1 Pf (C1 (Pl f) (C1 Pz (C1 V3 (cT (Ub (Am (Ae (Ah ?_)))))))))));refine At (cS (C1 Pf (C1 (Pl f) (C1 Mv (C1 Pi (C1 (VP rx) (C1 Mv ?_)))))));refine C1 (Cw rfl rfl (aQ _ Aa)) ?_;refine eQ rfl (HI.out _ _ _ Ag) ?_;rintro _ ak ⟨ac,⟨⟨⟩,⟨al,⟨am,F⟩⟩⟩⟩;have an:=F.size;replace X:=X.ext F;replace f:=f.ext F;replace E:=Bk.rowSits.ext E F;replace rx:=rx.ext F;replace sx:=Nd.sits.ext sx F;clear F;refine C1 Pa (cT (Ah (cS (C1 Mv (C1 V3 (C1 Mv ?_))))));refine Dw rfl rfl rfl (fun ad=>?_) (fun ad=>?_);refine Qx (Qx (C1 T9 (cT (BY rfl (cS (C1 Pa (cT (AY (Ar (AH (Ar ?_)))))))))));refine Ar (AH (Ar (Bb rfl rfl ?_)));rotate_left;refine Wf (C1 Mv (Wf (C1 V5 (C1 Ua (cT ?_)))));refine AN rfl (fun ae=>?_) (fun ae=>?_);refine cS (C1 Pa (cT (AY (Ar (AH (Ar (Ar (AH (Ar (Bb rfl rfl ?_))))))))));rotate_left;refine Am (Ae (Aj (C1 Mv (C1 Mv (C1 V7 (C1 Pa (Ai (Af (Ae (Aj (C1 Mv ?_)))))))))));refine C1 V7 (C1 Pa (Ai ?_));rotate_left
    . exact ⟨_,rfl,Aa,Aa,X⟩
    . exact ⟨_,rfl,Aa,Aa,X⟩
    . exact Ay (i+1,v+ac) sB ⟨by (try dsimp only);omega,⟨by (try dsimp only);omega,by (try dsimp only);omega⟩,f,E,X⟩ (by (try dsimp only);omega)
  . have:i=l.length:=by omega
    subst this
    refine Ah (cS (C1 Mv (C1 Pf (C1 (Pl f) (C1 Pz (C1 V3 (cT (F5 (C3 (AG (AG ?_)))))))))));refine Bd (Ae (cS (C1 Mv (C1 Pa (cT (AY (Bb rfl rfl ?_)))))))
    exact ⟨_,rfl,Aa,Aa,X⟩
def BoolR (w:wD):Ending->wD->Prop:=fun e w'=> ∃b:Bool,e = .returned (.bool b)/\Ext w w'
def BoolR.ret {w w':wD} {e:Ending} (h:BoolR w e w') : ∃v,e = .returned v:=by
 obtain ⟨_,h,-⟩:=h;exact ⟨_,h⟩
def VB (t:Nd) (E:t.wf) (S:nP) (a:oA) (c:Nat) (w:wD) (f:t.sits S w a):Calls prog 41 #[t.val a c] w (BoolR w):=by
 have X:=cB w;have L:=Z2 (fun U h=>Qm 100 Aa t S a c U E h);clear E;obtain ⟨k,n,s,l⟩:=t;simp only [cO,dB,cX,cV,dC] at L ⊢;refine Ad func41 ntmps41 rfl rfl ?_
 focus
  refine cS (eB [_,_,_,_] ?_);intro b1 w2 F V p6 z7;revert X f;refine eE V ?_;intro X f;refine eK ?_;refine eQ rfl (L.out _ Ag) ?_;rintro _ Y ⟨v8,⟨⟨⟩,⟨h9,⟨Z,M⟩⟩⟩⟩;revert F X f;refine eY M ?_;intro aa F X f;refine eK ?_;refine Dw rfl rfl rfl (fun N=>?_) (fun N=>?_);refine eK ?_;refine xR ?_;rotate_left;refine eK ?_;refine eQ rfl (L.out _ Ag) ?_;rintro _ ab ⟨ac,⟨⟨⟩,⟨ad,⟨ae,O⟩⟩⟩⟩;revert F X f;refine eY O ?_;intro z20 F X f;refine eK ?_;refine xR ?_;rotate_left
 all_goals exact ⟨_,rfl,X⟩
def BigR (g:PG) (w:wD):Ending->wD->Prop:=fun e w'=> ∃b:Bool,e = .returned (.bool b)/\(b=false->g.vars.length<=40/\g.procs.length<=70)/\Ext w w'
def BigR.ret {g:PG} {w w':wD} {e:Ending} (h:BigR g w e w') : ∃v,e = .returned v:=by
 obtain ⟨_,h,-⟩:=h;exact ⟨_,h⟩
def YK (g:PG) (E:g.wf) (S:nP) (va:oA) (vc:Nat) (U:oA) (pc:Nat) (V:oA) (mc:Nat) (w:wD) (hs:g.sits S w va U V):Calls prog 21 #[.agg (g.cells va vc U pc V mc).toArray] w (BigR g w):=by
 have X:=cB w;have HB:=Z2 (fun Y h=>VB g.main E.main S V mc Y h);have hv:=E.nv;have hp:=E.np;have HW:=Z2 E.procs;have f:=hs.procs;have M:=hs.main;clear hs E;obtain ⟨vars,procs,m⟩:=g;simp only [dC] at HB f M hv hp HW ⊢;refine Ad func21 ntmps21 rfl rfl ?_
 focus
  refine cS (FI [_,_,_,_,_,_] rfl rfl rfl ?_);intro b1 w2 Z;have F:=Z.blk;dsimp only at F;have x5:=Z.ext;have p6:=Z.pos;have z7:=Z.size;revert X f M;refine eE x5 ?_;intro X f M;refine eK ?_;refine Dw rfl rfl rfl (fun c8=>?_) (fun c8=>?_);refine eK ?_;refine xR ?_;rotate_left;refine eK ?_;refine Dw rfl rfl rfl (fun c9=>?_) (fun c9=>?_);refine eK ?_;refine xR ?_;rotate_left;refine eK ?_;refine eQ rfl (HB.out _ Ag) ?_;rintro _ af ⟨ag,⟨⟨⟩,aa⟩⟩;revert F X f M;refine eY aa ?_;intro ah F X f M;refine C1 Ua (cT ?_);refine Ej rfl (fun ab=>?_) (fun ab=>?_);refine eK ?_;refine xR ?_;rotate_left;refine Am (Ae (Ah (cS (C1 Pa (cT ?_)))));rotate_left
 . exact ⟨_,rfl,(fun h=>by cases h),X⟩
 . exact ⟨_,rfl,(fun h=>by cases h),X⟩
 . exact ⟨_,rfl,(fun h=>by cases h),X⟩
 refine At ?_;refine AK (ι:=Nat) (fun j=>[(1,.pointer (some ⟨b1,0,none⟩)),(3,.int .i64 j)])
  (fun j w'=>j<=procs.length/\Blk w' b1 [.slice va vars.length vc,.slice U procs.length pc,.int .u8 m.kind,.int .i64 m.num,str m.name,.slice V m.kids.length mc]/\PDs S w' procs U/\Ext w w') (fun j=>procs.length-j) 0 sB ⟨aE _,F,f,X⟩ ?_
 clear F f X M;rintro j Y ⟨hj,F,f,X⟩;by_cases N:j<procs.length
 . obtain ⟨kb,ko,rfl,-,hk⟩:=dI f Aa;obtain ⟨xa,xc,ya,yc,rx,-,sx⟩:=hk j _ (Z0 N);have L:=HW.out _ (Z8 N);clear hk;generalize procs[j]=x at *;have O:=Z2 (fun Y h=>VB x.body L.body S ya yc Y h);have ai:=L.len;clear L;simp only [dC] at O
   focus
    refine eK ?_;refine C1 (Pw rx) ?_;refine eK ?_;refine Dw rfl rfl rfl (fun ac=>?_) (fun ac=>?_);refine eK ?_;refine xR ?_;rotate_left;refine eK ?_;refine Ee [_,_,_,_] Ac rfl rfl rfl rx rfl rfl rfl (Wf (eQ rfl (O.out _ Ag) ?_));rintro _ aj ⟨ak,⟨⟨⟩,ad⟩⟩;revert X F f rx sx;refine eY ad ?_;intro al X F f rx sx;refine C1 Ua (cT ?_);refine Ej rfl (fun ae=>?_) (fun ae=>?_);refine eK ?_;refine xR ?_;rotate_left;refine Am (Af (Ae (Aj (C1 Mv (C1 V7 (C1 Pa (Ai ?_)))))));rotate_left
   . exact ⟨_,rfl,(fun h=>by cases h),X⟩
   . exact ⟨_,rfl,(fun h=>by cases h),X⟩
   . exact Ay (j+1) sB ⟨Aa,F,f,X⟩ Aa
 . refine eK ?_;refine xR ?_;exact ⟨_,rfl,(fun _=>⟨by (try dsimp only);omega,by (try dsimp only);omega⟩),X⟩
def Zh (e:EX) (M:oA) (N:Nat) (O:oA) (U:Nat) (V:oA) (Y:Nat) (w:wD) :
 Calls prog 13 #[.agg (e.cells M N O U V Y).toArray] w fun r w'=>r = .returned (.agg (e.cells M N O U V Y).toArray)/\Ext w w':=by
 have X:=cB w;unfold EX.cells;refine Ad func13 ntmps13 rfl rfl ?_;refine cS (eB [_,_,_,_,_,_,_,_,_,_,_,_] ?_);intro b1 w2 f Z p6 z7;have X:=X.ext Z;refine eA [_,_,_,_,_,_,_,_,_,_,_,_] ?_;intro b8 w9 h E aa ab;revert f X;refine eE E ?_;intro f X;refine eK ?_;refine C1 (xB [_,_,_,_,_,_,_,_,_,_,_,_]) (eS [_,_,_,_,_,_,_,_,_,_,_,_] h ?_);intro ac F L ad;revert f X;refine eF L ?_;intro f X;refine eK ?_;refine xC F ?_;exact ⟨rfl,X⟩
def YL {g:PG} (hg:g.few) (S S':nP) (N O U f h E:oA) (X Y Z F L M:Nat) (w:wD) (hs:g.sits S w N O U) (V:g.sits S' w f h E) :
 Calls prog 23 #[.agg (g.cells N X O Y U Z).toArray,.agg (g.cells f F h L E M).toArray] w fun e w'=>e = .returned (.bool true)/\Ext w w':=Sb g S S' N O U f h E X Y Z F L M w hg hs V
def XD:zeroPG.few:=⟨by simp [zeroPG],by simp [zeroPG],Au,by simp [zeroPG]⟩
def VC (w:wD) :
 Calls prog 23 #[.agg #[.slice none 0 0,.slice none 0 0,.int .u8 0,.int .i64 0,.string ⟨#[]⟩,.slice none 0 0],.agg #[.slice none 0 0,.slice none 0 0,.int .u8 0,.int .i64 0,.string ⟨#[]⟩,.slice none 0 0]] w fun e w'=>e = .returned (.bool true)/\Ext w w':=
 Sb zeroPG (fun _=>True) (fun _=>True) none none none none none none 0 0 0 0 0 0 w XD Kk Kk
def XE (e:EX) (hn:e.name.length<=9223372036854775807) (a0:e.g.wf) (S:Nat->Prop) (va:Option Addr) (vc:Nat) (pa:Option Addr) (pc:Nat) (ma:Option Addr) (mc:Nat) (w:World) (E:e.sits S w va pa ma vc) (L:Errs2 w) (F:TabsF w) :
 Calls prog 7 #[.agg (e.cells va vc pa pc ma mc).toArray] w fun r w'=>r = .returned (.bool true)/\Ext w w':=by
 have X:=cB w;have da:=F.g;replace E:=E.ltA;have HA:=Z2 (fun w1 h1 h2=>Nq w1 h1 h2);have HB:=Z2 (fun w1 h=>YK e.g a0 (· < w.heap.size) va vc pa pc ma mc w1 h);have H1:=Z2 (fun w1=>Zh e va vc pa pc ma mc w1);have M:=E.g
 by_cases hf:e.g.vars.length<=1000000
 . have hw:e.wf:=⟨hn,a0,hf⟩;have HV:=Z2 (fun w1 h=>EN e hw (· < w.heap.size) va vc pa pc ma mc w1 h)
   rcases (Classical.em e.valid).symm with hv|hv
   . have HS:=Z2 (fun w1 h=>W6 e hw hv (· < w.heap.size) va vc pa pc ma mc w1 h);rw [decide_eq_false hv] at HV;clear hv hw a0 hf
     unfold EX.cells at *
     refine Ad func7 ntmps7 rfl rfl ?_
     focus
      refine cS ?_;refine eB [_,_,_,_,_,_,_,_,_,_,_,_] ?_;intro b1 w2 h4 x5 p6 z7;replace L:=L.ext x5;replace F:=F.ext x5;replace X:=X.ext x5;replace E:=cK E x5;replace M:=cG M x5;clear x5;refine C1 Pa (cT (Ah (cS ?_)));refine cC rfl (HA.out _ Ag Ag) ?_;rintro _ w9 ⟨⟨⟩,x8⟩;have db:=x8.size;replace h4:=h4.ext x8;replace L:=L.ext x8;replace F:=F.ext x8;replace X:=X.ext x8;replace E:=cK E x8;replace M:=cG M x8;clear x8;refine C1 Pt (cT (AR rfl (Am (Ae (Ah (cS (C1 Pf (AJ [_,_,_,_,_,_] Ac rfl rfl rfl h4 rfl rfl rfl ?_))))))));refine eQ rfl (HB.out _ Ag) ?_;rintro _ dc ⟨dd,⟨⟨⟩,⟨de,ar⟩⟩⟩;have df:=ar.size;replace h4:=h4.ext ar;replace L:=L.ext ar;replace F:=F.ext ar;replace X:=X.ext ar;replace E:=cK E ar;replace M:=cG M ar;clear ar;refine cT ?_;refine Ej rfl (fun bl=>?_) (fun bl=>?_);refine cS (C1 Pa (cT (AY (Ar (Bb rfl rfl ?_)))));rotate_left;refine Am (Ae (cS (AJ [_,_,_,_,_,_,_,_,_,_,_,_] Ac rfl rfl rfl h4 rfl rfl rfl (cC rfl (H1.out _) ?_))));rintro _ dg ⟨⟨⟩,au⟩;have dh:=au.size;replace h4:=h4.ext au;replace L:=L.ext au;replace F:=F.ext au;replace X:=X.ext au;replace E:=cK E au;replace M:=cG M au;clear au;refine Bm [_,_,_,_,_,_,_,_,_,_,_,_] Ci rfl rfl ?_
      intro di bm bd;refine eI [_,_,_,_,_,_,_,_,_,_,_,_] bd ?_;clear bd bm;intro dk al az dl dm;replace h4:=h4.ext az;replace L:=L.ext az;replace F:=F.ext az;replace X:=X.ext az;replace E:=cK E az;replace M:=cG M az;clear az;refine cN (AJ [_,_,_,_,_,_,_,_,_,_,_,_] Ac rfl rfl rfl al rfl rfl rfl ?_);refine cC rfl (HS.out _ Ag) ?_;rintro _ dn ⟨⟨⟩,aq⟩;have dp:=aq.size;replace al:=al.ext aq;replace h4:=h4.ext aq;replace L:=L.ext aq;replace F:=F.ext aq;replace X:=X.ext aq;replace E:=cK E aq;replace M:=cG M aq;clear aq;refine C1 Mv (C1 Px (C1 Px ?_));refine Bm [_,_,_,_,_,_] Ci rfl rfl ?_;intro dq bn be;refine eI [_,_,_,_,_,_] be ?_;clear be bn;intro dr a3 av ds dt;replace al:=al.ext av;replace h4:=h4.ext av;replace L:=L.ext av;replace F:=F.ext av;replace X:=X.ext av;replace E:=cK E av;replace M:=cG M av;clear av;refine C1 Pa (cT (Ah (cS (AJ [_,_,_,_,_,_,_,_,_,_,_,_] Ac rfl rfl rfl al rfl rfl rfl ?_))));refine cC rfl (HV.out _ Ag) ?_;rintro _ du ⟨⟨⟩,am⟩;have dv:=am.size;replace a3:=a3.ext am;replace al:=al.ext am;replace h4:=h4.ext am;replace L:=L.ext am;replace F:=F.ext am;replace X:=X.ext am;replace E:=cK E am;replace M:=cG M am
      clear am;refine C1 Pt (cT (BY rfl (cS (C1 Mv (C1 V1 (C1 Mv (FJ (AJ [_,_,_,_,_,_] Ac rfl rfl rfl a3 rfl rfl rfl (FJ (C1 (BU [_,_,_,_,_,_] Ac Ci rfl rfl rfl rfl) (FJ ?_)))))))))));refine cC rfl (VC _) ?_;rintro _ dw ⟨⟨⟩,an⟩;have dx:=an.size;replace a3:=a3.ext an;replace al:=al.ext an;replace h4:=h4.ext an;replace L:=L.ext an;replace F:=F.ext an;replace X:=X.ext an;replace E:=cK E an;replace M:=cG M an;clear an;refine C1 RK (C1 Pa (cT (AY (Ar (Bb rfl rfl ?_)))));rotate_left
     all_goals exact ⟨rfl,X⟩
   . have HS:=Z2 (fun w1 h=>N9 e hw hv (· < w.heap.size) va vc pa pc ma mc w1 h);rw [decide_eq_true hv] at HV;have bf:=KJ hv.2.1.1;have bb:e.sol.wf:=⟨hn,PG.pinv_wf a0 hv.2.1.1,hf⟩;have bc:=EX.sol_valid hv;have a5:=Z2 (fun S va vc pa pc ma mc w1 h=>EN e.sol bb S va vc pa pc ma mc w1 h);rw [decide_eq_true bc] at a5;have a6:=Z2 (fun S va vc pa pc ma mc w1 h=>N9 e.sol bb bc S va vc pa pc ma mc w1 h);have hb:e.sol.g.pinv=e.g:=PG.pinv_back hv.2.1.1;rw [hb] at a6;have HE:=Z2 (fun S' bo bp bq br bs bt w1 h1 h2=>YL bf S' (· < w.heap.size) bo bp bq va pa ma br bs bt vc pc mc w1 h1 h2);clear hv hw a0 hf bf bb bc hb
     unfold EX.sol at a5 a6
     unfold EX.cells at *
     simp only at a5 a6
     generalize e.g.pinv=u at *
     refine Ad func7 ntmps7 rfl rfl ?_
     focus
      refine cS ?_;refine eB [_,_,_,_,_,_,_,_,_,_,_,_] ?_;intro dy dz f a1 d0 d1;replace L:=L.ext a1;replace F:=F.ext a1;replace X:=X.ext a1;replace E:=cK E a1;replace M:=cG M a1;clear a1;refine C1 Pa (cT (Ah (cS ?_)));refine cC rfl (HA.out _ Ag Ag) ?_;rintro _ d2 ⟨⟨⟩,aw⟩;have b8:=aw.size;replace f:=f.ext aw;replace L:=L.ext aw;replace F:=F.ext aw;replace X:=X.ext aw;replace E:=cK E aw;replace M:=cG M aw;clear aw;refine C1 Pt (cT (AR rfl (Am (Ae (Ah (cS (C1 Pf (AJ [_,_,_,_,_,_] Ac rfl rfl rfl f rfl rfl rfl ?_))))))));refine eQ rfl (HB.out _ Ag) ?_;rintro _ b9 ⟨ca,⟨⟨⟩,⟨cb,ah⟩⟩⟩;have cc:=ah.size;replace f:=f.ext ah;replace L:=L.ext ah;replace F:=F.ext ah;replace X:=X.ext ah;replace E:=cK E ah;replace M:=cG M ah;clear ah;refine cT ?_;refine Ej rfl (fun bg=>?_) (fun bg=>?_);refine cS (C1 Pa (cT (AY (Ar (Bb rfl rfl ?_)))));rotate_left;refine Am (Ae (cS (AJ [_,_,_,_,_,_,_,_,_,_,_,_] Ac rfl rfl rfl f rfl rfl rfl (cC rfl (H1.out _) ?_))));rintro _ cd ⟨⟨⟩,ai⟩;have ce:=ai.size;replace f:=f.ext ai;replace L:=L.ext ai;replace F:=F.ext ai;replace X:=X.ext ai;replace E:=cK E ai
      replace M:=cG M ai;clear ai;refine Bm [_,_,_,_,_,_,_,_,_,_,_,_] Ci rfl rfl ?_;intro cf bh a7;refine eI [_,_,_,_,_,_,_,_,_,_,_,_] a7 ?_;clear a7 bh;intro cg ac ak ch ci;replace f:=f.ext ak;replace L:=L.ext ak;replace F:=F.ext ak;replace X:=X.ext ak;replace E:=cK E ak;replace M:=cG M ak;clear ak;refine cN (AJ [_,_,_,_,_,_,_,_,_,_,_,_] Ac rfl rfl rfl ac rfl rfl rfl ?_);refine Ax (Bg Bo rfl (HS.out _ Ag) (fun _ _ ⟨_,_,_,_,_,_,h⟩=>⟨_,h.1⟩)) rfl ?_ aFh;rintro _ cj ⟨bu,⟨bv,⟨bw,⟨bx,⟨bz,⟨b0,⟨⟨⟩,⟨U,⟨V,⟨ck,ag⟩⟩⟩⟩⟩⟩⟩⟩⟩⟩;have cl:=ag.size;replace ac:=ac.ext ag;replace f:=f.ext ag;replace L:=L.ext ag;replace F:=F.ext ag;replace X:=X.ext ag;replace E:=cK E ag;replace M:=cG M ag;clear ag;refine C1 Mv (C1 Px (C1 Px ?_));refine Bm [_,_,_,_,_,_] Ci rfl rfl ?_;intro cm bi a8;refine eI [_,_,_,_,_,_] a8 ?_;clear a8 bi;intro cn Y ad co cp;replace U:=cG U ad;replace V:=V.ext ad;replace ac:=ac.ext ad;replace f:=f.ext ad;replace L:=L.ext ad;replace F:=F.ext ad;replace X:=X.ext ad;replace E:=cK E ad;replace M:=cG M ad;clear ad
      refine C1 Pa (cT (Ah (cS (AJ [_,_,_,_,_,_,_,_,_,_,_,_] Ac rfl rfl rfl ac rfl rfl rfl ?_))));refine cC rfl (HV.out _ Ag) ?_;rintro _ cq ⟨⟨⟩,aa⟩;have cr:=aa.size;replace Y:=Y.ext aa;replace U:=cG U aa;replace V:=V.ext aa;replace ac:=ac.ext aa;replace f:=f.ext aa;replace L:=L.ext aa;replace F:=F.ext aa;replace X:=X.ext aa;replace E:=cK E aa;replace M:=cG M aa;clear aa;refine C1 Pt (cT (AR rfl (Am (Ae (Ah (cS (C1 Mv (C1 V2 (cT (VQ (Am ?_)))))))))));refine Ae (cS (AJ [_,_,_,_,_,_] Ac rfl rfl rfl Y rfl rfl rfl (C1 Pf ?_)));refine eV [_,_,_,_,_,_] [_,_,_,_,_,_,_,_,_,_,_,_] ac ?_;intro ct ae af cu;clear ac;replace Y:=Y.fr af Aa;replace U:=dL U af Aa;replace V:=V.fr af Aa;replace f:=f.fr af Aa;replace L:=L.fr af Aa;replace F:=F.fr af Aa;replace X:=X.fr af Aa;replace E:=EX.sits.fr E af Aa;replace M:=dL M af Aa;clear af;refine cN (AJ [_,_,_,_,_,_,_,_,_,_,_,_] Ac rfl rfl rfl ae rfl rfl rfl ?_);refine Ax (Bg Bo rfl (a6.out _ _ _ _ _ _ _ _ ⟨Ag,Ag,Ag⟩) (fun _ _ ⟨_,_,_,_,_,_,h⟩=>⟨_,h.1⟩)) rfl ?_ aFh
      rintro _ cv ⟨b2,⟨b3,⟨b4,⟨b5,⟨b6,⟨b7,⟨⟨⟩,⟨ao,⟨ap,⟨cw,ab⟩⟩⟩⟩⟩⟩⟩⟩⟩⟩;have cx:=ab.size;replace ae:=ae.ext ab;replace Y:=Y.ext ab;replace U:=cG U ab;replace V:=V.ext ab;replace f:=f.ext ab;replace L:=L.ext ab;replace F:=F.ext ab;replace X:=X.ext ab;replace E:=cK E ab;replace M:=cG M ab;clear ab;refine C1 Mv (C1 Px (C1 Px ?_));refine Bm [_,_,_,_,_,_] Ci rfl rfl ?_;intro cy bj a9;refine eI [_,_,_,_,_,_] a9 ?_;clear a9 bj;intro cz ax Z c0 c1;replace ao:=cG ao Z;replace ap:=ap.ext Z;replace ae:=ae.ext Z;replace Y:=Y.ext Z;replace U:=cG U Z;replace V:=V.ext Z;replace f:=f.ext Z;replace L:=L.ext Z;replace F:=F.ext Z;replace X:=X.ext Z;replace E:=cK E Z;replace M:=cG M Z;clear Z;refine C1 Pa (cN (AJ [_,_,_,_,_,_,_,_,_,_,_,_] Ac rfl rfl rfl ae rfl rfl rfl ?_));refine cC rfl (a5.out _ _ _ _ _ _ _ _ ⟨Ag,Ag,Ag⟩) ?_;rintro _ c2 ⟨⟨⟩,N⟩;have c3:=N.size;replace ax:=ax.ext N;replace ao:=cG ao N;replace ap:=ap.ext N;replace ae:=ae.ext N;replace Y:=Y.ext N;replace U:=cG U N;replace V:=V.ext N
      replace f:=f.ext N;replace L:=L.ext N;replace F:=F.ext N;replace X:=X.ext N;replace E:=cK E N;replace M:=cG M N;clear N;refine C1 Mv (Ba rfl rfl rfl (rfl) (C1 Mv (Ba rfl rfl rfl (rfl) (C1 V1 (C1 (BA rfl rfl rfl) (C1 Mv (FJ (AJ [_,_,_,_,_,_] Ac rfl rfl rfl ax rfl rfl rfl (FJ (C1 Pf (FJ ?_)))))))))));refine AJ [_,_,_,_,_,_] Ac rfl rfl rfl f rfl rfl rfl (FJ ?_);refine cC rfl (HE.out _ _ _ _ _ _ _ _ Ag Ag) ?_;rintro _ c4 ⟨⟨⟩,O⟩;have c5:=O.size;replace ax:=ax.ext O;replace ao:=cG ao O;replace ap:=ap.ext O;replace ae:=ae.ext O;replace Y:=Y.ext O;replace U:=cG U O;replace V:=V.ext O;replace f:=f.ext O;replace L:=L.ext O;replace F:=F.ext O;replace X:=X.ext O;replace E:=cK E O;replace M:=cG M O;clear O;refine C1 RK (C1 Pa (cT (AY (Bb rfl rfl ?_))));rotate_left
     all_goals exact ⟨rfl,X⟩
 . clear a0
   unfold EX.cells at *
   refine Ad func7 ntmps7 rfl rfl ?_
   focus
    refine cS ?_;refine eB [_,_,_,_,_,_,_,_,_,_,_,_] ?_;intro d3 d4 a4 a2 d5 d6;replace L:=L.ext a2;replace F:=F.ext a2;replace X:=X.ext a2;replace E:=cK E a2;replace M:=cG M a2;clear a2;refine C1 Pa (cT (Ah (cS ?_)));refine cC rfl (HA.out _ Ag Ag) ?_;rintro _ d7 ⟨⟨⟩,ay⟩;have c6:=ay.size;replace a4:=a4.ext ay;replace L:=L.ext ay;replace F:=F.ext ay;replace X:=X.ext ay;replace E:=cK E ay;replace M:=cG M ay;clear ay;refine C1 Pt (cT (AR rfl (Am (Ae (Ah (cS (C1 Pf (AJ [_,_,_,_,_,_] Ac rfl rfl rfl a4 rfl rfl rfl ?_))))))));refine eQ rfl (HB.out _ Ag) ?_;rintro _ c7 ⟨c8,⟨⟨⟩,⟨bk,aj⟩⟩⟩;have c9:=aj.size;replace a4:=a4.ext aj;replace L:=L.ext aj;replace F:=F.ext aj;replace X:=X.ext aj;replace E:=cK E aj;replace M:=cG M aj;clear aj;refine cT ?_;refine Ej rfl (fun ba=>?_) (fun ba=>?_);refine cS (C1 Pa (cT (AY (Ar (Bb rfl rfl ?_)))));rotate_left;refine Am (Ae ?_);rotate_left
   . exact ⟨rfl,X⟩
   . exact absurd (bk ba).1 Aa
def Ht:nP:=fun _=>True
def Nr (W:wD) (b o:Nat) : ∀(len i0:Nat),(∀i,i<len -> ∃(t:Nd) (f:oA) (E:Nat),t.wf/\W.cell? ⟨b,o+(i0+i)*4,none⟩=some (.int .u8 t.kind)/\W.cell? ⟨b,o+(i0+i)*4+1,none⟩=some (.int .i64 t.num)/\W.cell? ⟨b,o+(i0+i)*4+2,none⟩=some (str t.name)/\W.cell? ⟨b,o+(i0+i)*4+3,none⟩=some (.slice f t.kids.length E)/\t.sits Ht W f) ->
 ∃l:List Nd,l.length=len/\A6 l/\rowSits Ht W l (some ⟨b,o+i0*4,none⟩)
 | 0,_,_=>⟨[],rfl,by simp [A6],by simp [rowSits]⟩
 | len+1,i0,h=>by
  obtain ⟨l,U,V,X⟩:=Nr W b o len (i0+1) (fun i Y=>by
   have:=h (i+1) Aa;rwa [show i0+(i+1)=i0+1+i from by omega] at this)
  obtain ⟨t,f,E,F,M,h1,N,O,L⟩:=h 0 Aa;rw [Nat.add_zero] at M h1 N O;refine ⟨t::l,by simp [U],by simp [A6,F,V],?_⟩;simp only [rowSits];refine ⟨b,o+i0*4,f,E,rfl,trivial,M,h1,N,O,L,?_⟩;rwa [show o+i0*4+4=o+(i0+1)*4 from by omega]
def YM {W:wD} {a:Addr} {cs:lV} (h:W.cells? 0 a 4=some cs) : ∃c0 f c2 c3,cs=[c0,f,c2,c3]/\W.cell? (a.add 0)=some c0/\W.cell? (a.add 1)=some f/\W.cell? (a.add 2)=some c2/\W.cell? (a.add 3)=some c3:=by
 unfold World.cells? at h;rw [AX (aE _)] at h;rw [show List.range 4=[0,1,2,3] from rfl] at h;cases e0:W.cell? (a.add 0)<;>simp [e0] at h
 cases e1:W.cell? (a.add 1)<;>simp [e1] at h
 cases e2:W.cell? (a.add 2)<;>simp [e2] at h
 cases e3:W.cell? (a.add 3)<;>simp [e3] at h
 exact ⟨_,_,_,_,h.symm,rfl,rfl,rfl,rfl⟩
def TN (b o n m:Nat):((⟨b,o,none⟩:Addr).add n).add m=⟨b,o+n+m,none⟩:=by
 unfold bJ;by_cases f:n=0<;>by_cases h:m=0<;>simp [f,h]
def Ig:prog.cellsOf 32=4:=by kernel_rfl
def VE:prog.cellsOf 5=1:=by kernel_rfl
def VF:prog.cellsOf 3=1:=by kernel_rfl
def RA:prog.cellsOf 9=1:=by kernel_rfl
def XF:prog.cellsOf 30=1:=by kernel_rfl
def Jq {H:Type} (enc:TypeId×Value->H) (W:wD) (sp:Nat->Bool) (N:Nat) : ∀(E:Nat),E<N -> ∀(cs:lV) (x:DataW H×List MemPlace),aV enc prog W 0 sp true E 32 cs=some x ->
 ∃(t:Nd) (a:oA) (c:Nat),cs=[.int .u8 t.kind,.int .i64 t.num,str t.name,.slice a t.kids.length c]/\t.wf/\t.sits Ht W a:=by
 induction N with
 | zero=>intro E h;omega
 | succ N ih=>
  intro E hN cs x h;obtain ⟨xs,n,rfl,-,hl,ab,hf⟩:=DataW.trod_struct underlying32 h;rw [Ig] at hl;obtain ⟨c0,V,c2,c3,rfl⟩ : ∃c0 V c2 c3,cs=[c0,V,c2,c3]:=by
   rcases cs with _|⟨c0,_|⟨V,_|⟨c2,_|⟨c3,_|⟨c4,cs⟩⟩⟩⟩⟩
   . simp at hl
   . simp at hl
   . simp at hl
   . simp at hl
   . exact ⟨_,_,_,_,rfl⟩
   . simp at hl
  obtain ⟨y0,y1,y2,y3,rfl⟩ : ∃y0 y1 y2 y3,xs=[y0,y1,y2,y3]:=by
   have f:xs.length=4:=ab;rcases xs with _|⟨c0,_|⟨V,_|⟨c2,_|⟨c3,_|⟨c4,cs⟩⟩⟩⟩⟩
   . simp at f
   . simp at f
   . simp at f
   . simp at f
   . exact ⟨_,_,_,_,rfl⟩
   . simp at f
  . have f0:aV enc prog W 0 sp true n 5 (([c0,V,c2,c3].drop 0).take (prog.cellsOf 5))=some y0:=hf 0 _ rfl;have f1:aV enc prog W 0 sp true n 3 (([c0,V,c2,c3].drop 1).take (prog.cellsOf 3))=some y1:=hf 1 _ rfl;have f2:aV enc prog W 0 sp true n 9 (([c0,V,c2,c3].drop 2).take (prog.cellsOf 9))=some y2:=hf 2 _ rfl;have f3:aV enc prog W 0 sp true n 30 (([c0,V,c2,c3].drop 3).take (prog.cellsOf 30))=some y3:=hf 3 _ rfl;simp only [VE,VF,RA,XF,List.drop_zero,List.drop_succ_cons,bQ,List.take_zero] at f0 f1 f2 f3;obtain ⟨k,hk,-,wk⟩:=DataW.trod_int (show prog.underlying 5=some (.int .u8) by kernel_rfl) f0;obtain ⟨m,hm,-,wm⟩:=DataW.trod_int underlying3 f1;obtain ⟨s,hs,-,ws⟩:=DataW.trod_string (show prog.underlying 9=some .string by kernel_rfl) f2;simp only [aX,and_true] at hk hm hs;subst hk hm hs;have F:0<=k/\k<=255:=by simpa [Lit.wf,IntKind.min,IntKind.max,IntKind.signed,IntKind.bits] using wk
    have L : -9223372036854775808<=m/\m<=9223372036854775807:=by simpa [Lit.wf,IntKind.min,IntKind.max,IntKind.signed,IntKind.bits] using wm
    have Z:s.data.toList.length<=9223372036854775807:=by
     have:s.data.toList.length=s.size:=by rw [Array.length_toList];rfl
     unfold maxLen at ws;omega
    rcases DataW.trod_slice underlying30 f3 with ⟨hc,-⟩|⟨a,len,cap,M,rest,n',ai,hc,-,-,aj,ae,ak,hE,-⟩
    . simp only [aX,and_true] at hc;subst hc;exact ⟨.mk k m s.data.toList [],none,0,rfl,⟨F.1,F.2,L.1,L.2,Z,Bn,by simp [A6]⟩,by simp [cP,rowSits]⟩
    . simp only [aX,and_true] at hc;subst hc;rw [Ig] at hE;rcases Nat.eq_zero_or_pos len with h0|ac
      . subst h0;exact ⟨.mk k m s.data.toList [],some a,cap,rfl,⟨F.1,F.2,L.1,L.2,Z,Bn,by simp [A6]⟩,by simp [cP,rowSits]⟩
      . have X : ∀i,i<len -> ∃(t:Nd) (a':oA) (c':Nat),t.wf/\W.cell? ((a.add (i*4)).add 0)=some (.int .u8 t.kind)/\W.cell? ((a.add (i*4)).add 1)=some (.int .i64 t.num)/\W.cell? ((a.add (i*4)).add 2)=some (str t.name)/\W.cell? ((a.add (i*4)).add 3)=some (.slice a' t.kids.length c')/\t.sits Ht W a':=by
         intro i hi;have O:=hE i hi;cases hc4:W.cells? 0 (a.add (i*4)) 4 with
         | none=>
          rw [hc4] at O;have hh:M[i]? = some M[i]:=Z0 Aa;rw [hh] at O;simp at O
         | some al=>
          rw [hc4,Z0 Aa] at O;obtain ⟨d0,d1,d2,d3,rfl,U,e1,e2,e3⟩:=YM hc4;obtain ⟨t,a',c',ad,hw,hs⟩:=ih n' Aa _ _ O;simp only [aX,and_true] at ad;obtain ⟨rfl,rfl,rfl,rfl⟩:=ad;exact ⟨t,a',c',hw,U,e1,e2,e3,hs⟩
        obtain ⟨b,o,Y⟩:=a;have aa:Y=none:=by
         obtain ⟨t,a',c',-,U,-⟩:=X 0 ac;simp only [Nat.zero_mul,bJ,if_true] at U;unfold World.cell? at U;cases Y with
         | none=>rfl
         | some q=>simp at U;split at U<;>simp at U
        subst aa;obtain ⟨l,af,ag,ah⟩:=Nr W b o len 0 (fun i hi=>by
         obtain ⟨t,a',c',hw,U,e1,e2,e3,hs⟩:=X i hi;rw [TN] at U e1 e2 e3;rw [Nat.zero_add];exact ⟨t,a',c',hw,U,e1,e2,e3,hs⟩)
        subst af;refine ⟨.mk k m s.data.toList l,some ⟨b,o,none⟩,cap,rfl,⟨F.1,F.2,L.1,L.2,Z,by unfold maxLen at ae;omega,ag⟩,?_⟩;simpa [cP] using ah
def TO {W:wD} {p:Addr} {k:Nat} {cs:lV} (h:W.cells? 0 p k=some cs):Row W p cs/\cs.length=k:=by
 unfold World.cells? at h;rw [AX (aE _)] at h;refine ⟨fun i v f=>?_,by simpa using mapM_some_length h⟩;have L:cs.length=k:=by simpa using mapM_some_length h
 have E:i<k:=by
  rcases aL i cs.length with F|F
  . omega
  . rw [aN F] at f;cases f
 have:=mapM_some_get h i i (by simp [E]);rw [f] at this;exact this
def VG (b o i:Nat):(⟨b,o,none⟩:Addr).add i=⟨b,o+i,none⟩:=by unfold bJ;by_cases f:i=0<;>simp [f]
def Kv {α H:Type} (enc:TypeId×Value->H) (W:wD) (sp:Nat->Bool) {t e k:Nat} (ht:prog.underlying t=some (.slice e)) (hk:prog.cellsOf e=k) (aa:0<k) (G:lV->α->Prop)
 {E:Nat} (hG : ∀(n:Nat) (cs:lV) (x:DataW H×List MemPlace),n<E->aV enc prog W 0 sp true n e cs=some x -> ∃y,G cs y) {c:Value} {x:DataW H×List MemPlace} (h:aV enc prog W 0 sp true E t [c]=some x) :
 ∃(l:List α) (a:oA) (cap:Nat),c = .slice a l.length cap/\l.length<=9223372036854775807/\Arr Ht k (fun w b o y=> ∃cs,Row w ⟨b,o,none⟩ cs/\G cs y) W l a:=by
 rcases DataW.trod_slice ht h with ⟨N,-⟩|⟨a,len,cap,V,rest,n',ab,N,-,-,ac,X,ad,hE,-⟩
 . simp only [aX,and_true] at N;exact ⟨[],none,0,N,Bn,Z6 rfl⟩
 . simp only [aX,and_true] at N;rw [hk] at hE;unfold maxLen at X;rcases Nat.eq_zero_or_pos len with h0|O
   . subst h0;exact ⟨[],some a,cap,N,Bn,Z6 rfl⟩
   . have F : ∀i,i<len -> ∃y cs,Row W (a.add (i*k)) cs/\cs.length=k/\G cs y:=fun i Y=>by
      have f:=hE i Y;cases hc4:W.cells? 0 (a.add (i*k)) k with
      | none=>
       rw [hc4,Z0 Aa] at f;simp at f
      | some cs=>
       rw [hc4,Z0 Aa] at f;obtain ⟨r1,r2⟩:=TO hc4;obtain ⟨y,hy⟩:=hG n' cs _ Aa f;exact ⟨y,cs,r1,r2,hy⟩
     obtain ⟨b,o,U⟩:=a;have L:U=none:=by
      obtain ⟨y,cs,r,Z,-⟩:=F 0 O;simp only [Nat.zero_mul,bJ,if_true] at r;cases cs with
      | nil=>simp at Z;omega
      | cons v vs=>
       have:=r 0 v rfl;simp only [bJ,if_true] at this;exact Sy this
     subst L;have Z : ∃l:List α,l.length=len /\ ∀i y,l[i]? = some y -> ∃cs,Row W ⟨b,o+i*k,none⟩ cs/\G cs y:=by
      have key : ∀m,m<=len -> ∃l:List α,l.length=m /\ ∀i y,l[i]? = some y -> ∃cs,Row W ⟨b,o+i*k,none⟩ cs/\G cs y:=by
       intro m
       induction m with
       | zero=>intro _;exact ⟨[],rfl,Bn⟩
       | succ m ih=>
        intro hm;obtain ⟨l,h1,h2⟩:=ih Aa;obtain ⟨y,cs,r,-,hg⟩:=F m Aa;rw [VG] at r;refine ⟨l++[y],by simp [h1],fun i z M=>?_⟩;rcases aL i m with Y|Y
        . rw [bG Aa] at M;exact h2 i z M
        . rw [bS Aa] at M;obtain rfl:i=m:=by
           rcases aL m i with h'|h'
           . rw [aN (by simp;omega)] at M;cases M
           . omega
          simp [h1] at M;subst M;exact ⟨cs,r,hg⟩
      exact key len (aC _)
     obtain ⟨l,h1,h2⟩:=Z;subst h1;exact ⟨l,some ⟨b,o,none⟩,cap,N,Aa,aA ⟨b,o,rfl,trivial,h2⟩⟩
def ZE {cs:lV} (h:cs.length=3) : ∃a b c,cs=[a,b,c]:=by
 rcases cs with _|⟨a,_|⟨b,_|⟨c,_|⟨d,r⟩⟩⟩⟩<;>simp at h;exact ⟨a,b,c,rfl⟩
def XG {cs:lV} (h:cs.length=6) : ∃a b c d e f,cs=[a,b,c,d,e,f]:=by
 rcases cs with _|⟨a,_|⟨b,_|⟨c,_|⟨d,_|⟨e,_|⟨f,_|⟨g,r⟩⟩⟩⟩⟩⟩⟩<;>simp at h;exact ⟨a,b,c,d,e,f,rfl⟩
def BN {α:Type} {xs:List α} {n i:Nat} (h:xs.length=n) (f:i<n) : ∃y,xs[i]? = some y:=⟨xs[i],Z0 Aa⟩
def ZK:prog.cellsOf 93=3:=by kernel_rfl
def Zi:prog.cellsOf 28=1:=by kernel_rfl
def ZL:prog.cellsOf 90=6:=by kernel_rfl
def ZF:prog.cellsOf 29=1:=by kernel_rfl
def ZX:prog.cellsOf 34=6:=by kernel_rfl
section
variable {H:Type} (enc:TypeId×Value->H) (W:wD) (sp:Nat->Bool)
def RB {E:Nat} {cs:lV} {x:DataW H×List MemPlace} (h:aV enc prog W 0 sp true E 93 cs=some x) : ∃v:VD,cs=v.cells/\v.wf:=by
 obtain ⟨xs,n,rfl,-,U,f,M⟩:=DataW.trod_struct underlying93 h;rw [ZK] at U;obtain ⟨c0,N,c2,rfl⟩:=ZE U;obtain ⟨y0,e0⟩:=BN (i:=0) f Au;obtain ⟨y1,e1⟩:=BN (i:=1) f Au;obtain ⟨y2,e2⟩:=BN (i:=2) f Au;have V:aV enc prog W 0 sp true n 9 (([c0,N,c2].drop 0).take (prog.cellsOf 9))=some y0:=(M 0 _ rfl).trans e0;have X:aV enc prog W 0 sp true n 5 (([c0,N,c2].drop 1).take (prog.cellsOf 5))=some y1:=(M 1 _ rfl).trans e1;have Y:aV enc prog W 0 sp true n 3 (([c0,N,c2].drop 2).take (prog.cellsOf 3))=some y2:=(M 2 _ rfl).trans e2;simp only [VE,VF,RA,List.drop_zero,List.drop_succ_cons,bQ,List.take_zero] at V X Y;obtain ⟨s,Z,-,ws⟩:=DataW.trod_string Ew V;obtain ⟨k,hk,-,wk⟩:=DataW.trod_int (show prog.underlying 5=some (.int .u8) by kernel_rfl) X;obtain ⟨m,hm,-,wm⟩:=DataW.trod_int underlying3 Y;simp only [aX,and_true] at hk hm Z;subst hk hm Z;have F:0<=k/\k<=255:=by simpa [Lit.wf,IntKind.min,IntKind.max,IntKind.signed,IntKind.bits] using wk
 have L : -9223372036854775808<=m/\m<=9223372036854775807:=by simpa [Lit.wf,IntKind.min,IntKind.max,IntKind.signed,IntKind.bits] using wm
 have O:s.data.toList.length<=9223372036854775807:=by
  have:s.data.toList.length=s.size:=by rw [Array.length_toList];rfl
  unfold maxLen at ws;omega
 exact ⟨⟨s.data.toList,k,m⟩,rfl,O,F.1,F.2,L.1,L.2⟩
end
def Oo {α H:Type} (enc:TypeId×Value->H) (W:wD) (sp:Nat->Bool) {t e k:Nat} (M:prog.underlying t=some (.slice e)) (O:prog.cellsOf e=k) (F:0<k) (G:lV->α->Prop)
 {f:Nat} (U : ∀(n:Nat) (cs:lV) (x:DataW H×List MemPlace),n<f->aV enc prog W 0 sp true n e cs=some x -> ∃y,G cs y) {c:Value} {x:DataW H×List MemPlace} (h:aV enc prog W 0 sp true f t [c]=some x) :
 ∃(l:List α) (a:oA) (cap:Nat),c = .slice a l.length cap/\l.length<=9223372036854775807/\Arr Ht k (fun w b o y=> ∃cs,Row w ⟨b,o,none⟩ cs/\G cs y) W l a/\l.length<=cap:=by
 obtain ⟨l,a,cap,h1,V,X⟩:=Kv enc W sp M O F G U h;refine ⟨l,a,cap,h1,V,X,?_⟩;rcases DataW.trod_slice M h with ⟨E,-⟩|⟨a',len,N,L,rest,n',Y,E,-,-,Z,-⟩
 . simp only [aX,and_true] at E;rw [h1] at E;simp only [aS] at E;omega
 . simp only [aX,and_true] at E;rw [h1] at E;simp only [aS] at E;omega
section
variable {H:Type} (enc:TypeId×Value->H) (W:wD) (sp:Nat->Bool)
def Jr {f:Nat} {c:Value} {x:DataW H×List MemPlace} (h:aV enc prog W 0 sp true f 28 [c]=some x) :
 ∃(l:List VD) (a:oA) (cap:Nat),c = .slice a l.length cap/\l.length<=9223372036854775807/\(∀v∈l,v.wf)/\VDs Ht W l a/\l.length<=cap:=by
 obtain ⟨l,a,cap,h1,L,E,M⟩:=Oo (α:=VD) enc W sp underlying28 ZK Au (fun cs v=>cs=v.cells/\v.wf) (fun n cs x _ N=>RB enc W sp N) h;refine ⟨l,a,cap,h1,L,fun v F=>?_,E.mono aFh (fun b o v _ _ ⟨cs,r,e,_⟩=>by subst e;exact r),M⟩;rcases E with rfl|⟨b,o,-,-,O⟩
 . cases F
 . obtain ⟨i,U,rfl⟩:=List.mem_iff_getElem.1 F;obtain ⟨cs,-,-,V⟩:=O i _ (Z0 U);exact V
def Qo {E:Nat} {cs:lV} {x:DataW H×List MemPlace} (h:aV enc prog W 0 sp true E 90 cs=some x) : ∃p:PD,(∃M N O U,cs=p.cells M N O U/\VDs Ht W p.params M/\p.body.sits Ht W O/\p.params.length<=N)/\p.wf:=by
 obtain ⟨xs,n,rfl,-,hl,f,V⟩:=DataW.trod_struct underlying90 h;rw [ZL] at hl;obtain ⟨c0,X,c2,c3,c4,c5,rfl⟩:=XG hl;obtain ⟨y0,e0⟩:=BN (i:=0) f Au;obtain ⟨y1,e1⟩:=BN (i:=1) f Au;obtain ⟨y2,e2⟩:=BN (i:=2) f Au;have f0:aV enc prog W 0 sp true n 9 (([c0,X,c2,c3,c4,c5].drop 0).take (prog.cellsOf 9))=some y0:=(V 0 _ rfl).trans e0;have f1:aV enc prog W 0 sp true n 28 (([c0,X,c2,c3,c4,c5].drop 1).take (prog.cellsOf 28))=some y1:=(V 1 _ rfl).trans e1;have f2:aV enc prog W 0 sp true n 32 (([c0,X,c2,c3,c4,c5].drop 2).take (prog.cellsOf 32))=some y2:=(V 2 _ rfl).trans e2;simp only [Zi,RA,Ig,List.drop_zero,List.drop_succ_cons,bQ,List.take_zero] at f0 f1 f2;obtain ⟨s,hs,-,ws⟩:=DataW.trod_string Ew f0;obtain ⟨l,M,N,hc,Y,Z,aa,ab⟩:=Jr enc W sp f1;obtain ⟨t,O,U,F,hw,L⟩:=Jq enc W sp (n+1) n Aa _ _ f2;simp only [aX,and_true] at hs F;obtain ⟨rfl,rfl,rfl,rfl⟩:=F;subst hs hc;have ac:s.data.toList.length<=9223372036854775807:=by
  have:s.data.toList.length=s.size:=by rw [Array.length_toList];rfl
  unfold maxLen at ws;omega
 exact ⟨⟨s.data.toList,l,t⟩,⟨M,N,O,U,rfl,aa,L,ab⟩,ac,Y,Z,hw⟩
def Qp {M:Nat} {cs:lV} {x:DataW H×List MemPlace} (h:aV enc prog W 0 sp true M 34 cs=some x) : ∃(g:PG) (Y:oA) (Z:Nat) (f:oA) (F:Nat) (ma:oA) (mc:Nat),cs=g.cells Y Z f F ma mc/\g.wf/\g.sits Ht W Y f ma/\PDsC Ht W g.procs f/\g.vars.length<=Z:=by
 obtain ⟨xs,n,rfl,-,hl,E,hf⟩:=DataW.trod_struct underlying34 h;rw [ZX] at hl;obtain ⟨c0,c1,c2,c3,c4,c5,rfl⟩:=XG hl;obtain ⟨y0,e0⟩:=BN (i:=0) E Au;obtain ⟨y1,e1⟩:=BN (i:=1) E Au;obtain ⟨y2,e2⟩:=BN (i:=2) E Au;have f0:aV enc prog W 0 sp true n 28 (([c0,c1,c2,c3,c4,c5].drop 0).take (prog.cellsOf 28))=some y0:=(hf 0 _ rfl).trans e0;have f1:aV enc prog W 0 sp true n 29 (([c0,c1,c2,c3,c4,c5].drop 1).take (prog.cellsOf 29))=some y1:=(hf 1 _ rfl).trans e1;have f2:aV enc prog W 0 sp true n 32 (([c0,c1,c2,c3,c4,c5].drop 2).take (prog.cellsOf 32))=some y2:=(hf 2 _ rfl).trans e2;simp only [Zi,ZF,Ig,List.drop_zero,List.drop_succ_cons,bQ,List.take_zero] at f0 f1 f2;obtain ⟨l,Y,Z,hc,aa,ab,ac,ad⟩:=Jr enc W sp f0;obtain ⟨ps,f,F,hp,ae,N⟩:=Kv (α:=PD) enc W sp underlying29 ZL Au (fun cs p=>(∃f F L O,cs=p.cells f F L O/\VDs Ht W p.params f/\p.body.sits Ht W L/\p.params.length<=F)/\p.wf) (fun n cs x _ hx=>Qo enc W sp hx) f1;obtain ⟨t,L,O,U,hw,V⟩:=Jq enc W sp (n+1) n Aa _ _ f2;simp only [aX,and_true] at U;obtain ⟨rfl,rfl,rfl,rfl⟩:=U;subst hc hp;have X:PDsC Ht W ps f:=N.mono aFh (fun b o p _ _ ⟨cs,r,⟨f,F,L,O,e,h1,h2,h3⟩,_⟩=>by
  subst e;exact ⟨f,F,L,O,r,h1,h2,h3⟩)
 refine ⟨⟨l,ps,t⟩,Y,Z,f,F,L,O,rfl,⟨aa,ae,ab,fun p hp=>?_,hw⟩,⟨ac,X.pds,V⟩,X,ad⟩;rcases N with rfl|⟨b,o,-,-,hh⟩
 . cases hp
 . obtain ⟨i,hi,rfl⟩:=List.mem_iff_getElem.1 hp;obtain ⟨cs,-,-,hw⟩:=hh i _ (Z0 hi);exact hw
end
section
variable {H:Type} (enc:TypeId×Value->H) (W:wD) (sp:Nat->Bool)
def VH:prog.cellsOf 3=1:=by kernel_rfl
def XH:prog.cellsOf 9=1:=by kernel_rfl
def VI:prog.cellsOf 38=3:=by kernel_rfl
def Zj:prog.cellsOf 34=6:=by kernel_rfl
def Zk:prog.cellsOf 40=12:=by kernel_rfl
def Zl {cs:lV} (h:cs.length=3) : ∃a b c,cs=[a,b,c]:=by
 rcases cs with _|⟨a,_|⟨b,_|⟨c,_|⟨d,l⟩⟩⟩⟩<;>simp at h
 exact ⟨_,_,_,rfl⟩
def Zm {cs:lV} (h:cs.length=12) : ∃a b c d e f E F L M N O,cs=[a,b,c,d,e,f,E,F,L,M,N,O]:=by
 obtain ⟨a,b,c,d,e,f,h1⟩:=XG (cs:=cs.take 6) (by rw [bB];omega);obtain ⟨E,F,L,M,N,O,U⟩:=XG (cs:=cs.drop 6) (by rw [List.length_drop];omega);refine ⟨a,b,c,d,e,f,E,F,L,M,N,O,?_⟩;rw [<-aZ 6 cs,h1,U];rfl
def E5 {f:Nat} {c:Value} {x:DataW H×List MemPlace} (h:aV enc prog W 0 sp true f 3 [c]=some x) : ∃m:Int,c = .int .i64 m /\ -9223372036854775808<=m/\m<=9223372036854775807:=by
 obtain ⟨m,E,-,F⟩:=DataW.trod_int underlying3 h;simp only [aX,and_true] at E;exact ⟨m,E,by simpa [Lit.wf,IntKind.min,IntKind.max,IntKind.signed,IntKind.bits] using F⟩
def Qq {E:Nat} {cs:lV} {x:DataW H×List MemPlace} (h:aV enc prog W 0 sp true E 38 cs=some x) :
 ∃b:BoxV,cs=[.int .i64 b.v,.int .i64 b.l,.int .i64 b.i]/\(-9223372036854775808<=b.v/\b.v<=9223372036854775807)/\(-9223372036854775808<=b.l/\b.l<=9223372036854775807) /\ -9223372036854775808<=b.i/\b.i<=9223372036854775807:=by
 obtain ⟨xs,n,rfl,-,N,f,F⟩:=DataW.trod_struct underlying38 h;rw [VI] at N;obtain ⟨c0,L,c2,rfl⟩:=Zl N;obtain ⟨X,Y⟩:=BN (i:=0) f Au;obtain ⟨Z,e1⟩:=BN (i:=1) f Au;obtain ⟨y2,e2⟩:=BN (i:=2) f Au;have O:aV enc prog W 0 sp true n 3 (([c0,L,c2].drop 0).take (prog.cellsOf 3))=some X:=(F 0 _ rfl).trans Y;have U:aV enc prog W 0 sp true n 3 (([c0,L,c2].drop 1).take (prog.cellsOf 3))=some Z:=(F 1 _ rfl).trans e1;have V:aV enc prog W 0 sp true n 3 (([c0,L,c2].drop 2).take (prog.cellsOf 3))=some y2:=(F 2 _ rfl).trans e2;simp only [VH,List.drop_zero,List.drop_succ_cons,bQ,List.take_zero] at O U V;obtain ⟨v,rfl,hv⟩:=E5 enc W sp O;obtain ⟨l,rfl,M⟩:=E5 enc W sp U;obtain ⟨i,rfl,hi⟩:=E5 enc W sp V;exact ⟨⟨v,l,i⟩,rfl,hv,M,hi⟩
def ex_of_trodR {E:Nat} {cs:lV} {x:DataW H×List MemPlace} (h:aV enc prog W 0 sp true E 40 cs=some x) :
 ∃(e:EX) (X:oA) (Y:Nat) (Z:oA) (pc:Nat) (ma:oA) (mc:Nat),cs=e.cells X Y Z pc ma mc/\(e.name.length<=9223372036854775807/\e.g.wf)/\e.rng/\e.sits Ht W X Z ma Y:=by
 obtain ⟨xs,n,rfl,-,hl,f,F⟩:=DataW.trod_struct underlying40 h;rw [Zk] at hl;obtain ⟨c0,L,c2,c3,c4,c5,M,N,O,c9,ca,U,rfl⟩:=Zm hl;obtain ⟨y0,e0⟩:=BN (i:=0) f Au;obtain ⟨y1,e1⟩:=BN (i:=1) f Au;obtain ⟨y2,e2⟩:=BN (i:=2) f Au;obtain ⟨y3,e3⟩:=BN (i:=3) f Au;obtain ⟨y4,e4⟩:=BN (i:=4) f Au;have f0:aV enc prog W 0 sp true n 9 (([c0,L,c2,c3,c4,c5,M,N,O,c9,ca,U].drop 0).take (prog.cellsOf 9))=some y0:=(F 0 _ rfl).trans e0;have f1:aV enc prog W 0 sp true n 3 (([c0,L,c2,c3,c4,c5,M,N,O,c9,ca,U].drop 1).take (prog.cellsOf 3))=some y1:=(F 1 _ rfl).trans e1;have f2:aV enc prog W 0 sp true n 3 (([c0,L,c2,c3,c4,c5,M,N,O,c9,ca,U].drop 2).take (prog.cellsOf 3))=some y2:=(F 2 _ rfl).trans e2;have f3:aV enc prog W 0 sp true n 38 (([c0,L,c2,c3,c4,c5,M,N,O,c9,ca,U].drop 3).take (prog.cellsOf 38))=some y3:=(F 3 _ rfl).trans e3;have f4:aV enc prog W 0 sp true n 34 (([c0,L,c2,c3,c4,c5,M,N,O,c9,ca,U].drop 6).take (prog.cellsOf 34))=some y4:=(F 4 _ rfl).trans e4;simp only [VH,XH,VI,Zj,List.drop_zero,List.drop_succ_cons,bQ,List.take_zero] at f0 f1 f2 f3 f4;obtain ⟨s,hs,-,ws⟩:=DataW.trod_string Ew f0;obtain ⟨po,rfl,hp⟩:=E5 enc W sp f1;obtain ⟨fu,rfl,hu⟩:=E5 enc W sp f2;obtain ⟨b,hb,aa,ab,ac⟩:=Qq enc W sp f3;obtain ⟨g,X,Y,Z,pc,ma,mc,hg,ad,V,ae,af⟩:=Qp enc W sp f4;simp only [aX,and_true] at hs hb;obtain ⟨rfl,rfl,rfl⟩:=hb;subst hs
 unfold PG.cells at hg;simp only [aX,and_true] at hg;obtain ⟨rfl,rfl,rfl,rfl,rfl,rfl⟩:=hg;have ag:s.data.toList.length<=9223372036854775807:=by
  have:s.data.toList.length=s.size:=by rw [Array.length_toList];rfl
  unfold maxLen at ws;omega
 exact ⟨⟨s.data.toList,po,fu,b,g⟩,X,Y,Z,pc,ma,mc,rfl,⟨ag,ad⟩,⟨hp,hu,aa,ab,ac⟩,⟨V,ae,af⟩⟩
end
end Bk
