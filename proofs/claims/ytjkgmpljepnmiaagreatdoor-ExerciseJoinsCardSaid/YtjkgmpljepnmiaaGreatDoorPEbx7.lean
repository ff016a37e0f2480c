/- Texts that the proofs of ExerciseBack, ExerciseJoins need. No condition. (Part 7 of 10.) -/
import Derived.Test.YtjkgmpljepnmiaaGreatDoorPEbx6
set_option linter.unusedSimpArgs false
set_option linter.unusedVariables false
set_option linter.defProp false
set_option maxRecDepth 100000
set_option maxHeartbeats 4000000
open Go.Proofs.Tryz
open List renaming length_append->jy,length_cons->jz,getElem?_eq_getElem->jB,length_nil->jD,getElem_cons_succ->jE,getElem_mem->jH,set_cons_zero->jI,take_succ_eq_append_getElem->jK,cons_append->jP,take_length->jQ,mem_cons->jR,append_assoc->jS,not_mem_nil->jU,flatten_cons->jY,getElem?_eq_none->j4,replicate->ke,getElem?_append_left->kj,nil_append->km,length_take->kn,getElem?_append_right->kp,drop_eq_getElem_cons->kv,take_append_drop->kA,append_nil->kB,isEmpty_iff->kF,all_eq_true->kG,mem_cons_of_mem->kH,take_succ_cons->kK,map_cons->kN,mem_singleton->kP
open Bool renaming and_eq_true->jA,false_eq_true->kx
open Go.Lib renaming hid->jC,indexByte->ky
open Or renaming inl->jF,inr->jG
open Option.some renaming injEq->jJ,inj->jW
open Nat renaming le_refl->jL,zero_le->jN,blt->jT,lt_or_ge->jX,le_of_ble_eq_true->kg,le_trans->kz,eq_of_beq_eq_true->kD,ble->kJ,beq->kL
open Go.Result renaming andThen->jM,andThen_ok->kE
open Go.Sem renaming run_bind->jO,run_pure->jZ
open Go renaming Calls->jV
open Go.Region renaming ready->j6,binds->kO
open Go.IntWalk renaming i64_in->j7
open Go.Value.slice renaming injEq->j8
open List.cons renaming injEq->j9
open Prod.mk renaming injEq->kf
open Go.DataW renaming trod->kh
open Array renaming getElem?_eq_none->ki
open Go.Value renaming slice->kq,ownBlock->kC
open Go.Addr renaming add->kI
open Bk.Ext renaming refl->kQ
open Bk.Nd renaming kind->kZ,kids->li,name->lj,num->lp,val->lq,isExpr->lD,isPlace->lH,isStmt->lI
open Bk.Row renaming ext->ll,at0->lE
open Bk.Arr renaming get->lw
open Bk.Le renaming refl->lx
open Bk.EX renaming cells->lJ
namespace Bk
open Go Go.RowKit Go.Proofs
def jt:BT 69:=⟨by kernel_rfl,Ao⟩
def U8 (w:wD) (k:Nat):Prop:= ∃c fz,w.heap[k]? = some (.cells c 5 fz)
structure BdF (w:wD) (b:Nat) (l:lB) (H:Nat):Prop where
 is:Lib.IsBuilderF 69 5 b b (Lib.byteCells l) w
 own : ∀p v,w.heap[b]? = some (.cells #[p,v] 69 (0,0)) -> ∀g,v.ownBlock=some g->g<H
 lt:b<w.heap.size
def Mz {w:wD} {b:Nat} {o:Obj} (h:w.heap[b]? = some o):b<w.heap.size:=by
 rcases jX b w.heap.size with f|f
 . exact f
 . rw [ki f] at h;cases h
def BdF.fr {w w':wD} {b:Nat} {l:lB} {H:Nat} {S:nP} (h:BdF w b l H) (x:Fr S w w') (L : ∀k,S k->k≠b/\H<=k):BdF w' b l H:=by
 have f:w'.heap[b]? = w.heap[b]? := x.block b h.lt (fun E=>(L b E).1 rfl);have key : ∀p,Lib.BuilderAtF 69 5 b b p (Lib.byteCells l) w->Lib.BuilderAtF 69 5 b b p (Lib.byteCells l) w':=by
  rintro p ⟨h1,v,M,U,V⟩;refine ⟨h1,v,by rw [f];exact M,?_,V⟩;obtain ⟨N,X|⟨g,cap,F,Y,rfl,Z,O,k5⟩⟩:=U
  . exact ⟨N,jF X⟩
  . have hg:=h.own p _ M g rfl;exact ⟨N,jG ⟨g,cap,F,Y,rfl,Z,by rw [x.block g (Mz O) (fun E=>by have:=(L g E).2;omega)];exact O,k5⟩⟩
 refine ⟨h.is.imp (key _) (key _),fun p v hv=>h.own p v (by rw [<-f];exact hv),Nat.lt_of_lt_of_le h.lt x.size⟩
instance {w w':wD} {b:Nat} {l:lB} {H:Nat} {S:nP}:LfF S w w' (BdF w b l H) (∀k,S k->k≠b/\H<=k) (BdF w' b l H):=⟨fun x s h=>Bk.BdF.fr h x s⟩
def BdF.ext {w w':wD} {b:Nat} {l:lB} {H:Nat} (h:BdF w b l H) (x:Ext w w'):BdF w' b l H:=h.fr (S:=fun _=>False) (Fr.of_ext x) (fun _ h=>h.elim)
instance {w w':wD} {b:Nat} {l:lB} {H:Nat}:LfE w w' (BdF w b l H) (BdF w' b l H):=⟨fun x h=>Bk.BdF.ext h x⟩
def Yw {w:wD} {b:Nat} {l:lB} (h:Lib.IsBuilderF 69 5 b b (Lib.byteCells l) w):BdF w b l w.heap.size:=by
 refine ⟨h,fun p v F g E=>?_,?_⟩
 . have key : ∀q,Lib.BuilderAtF 69 5 b b q (Lib.byteCells l) w->g<w.heap.size:=by
    rintro q ⟨-,O,f,L,-⟩;rw [F] at f;simp only [jJ,Obj.cells.injEq,Array.mk.injEq,j9,and_true] at f;obtain ⟨rfl,rfl⟩:=f;obtain ⟨-,⟨rfl,-⟩|⟨U,cap,M,V,rfl,-,N,-⟩⟩:=L
    . cases E
    . simp only [kC,jJ] at E;subst E;exact Mz N
   exact h.elim (key _) (key _)
 . exact h.elim (fun ⟨_,_,f,_⟩=>Mz f) (fun ⟨_,_,f,_⟩=>Mz f)
def dF {w w':wD} {b:Nat} (h:Below b w w') (N:Lib.OthersKept 5 (some b) w w'):Fr (fun k=>k=b\/(b<=k/\U8 w k)) w w':=by
 refine ⟨h.os,h.tape,h.output,h.size,fun k O M=>?_⟩;by_cases f:k<b
 . exact h.block k f
 . have E:k≠b:=fun e=>M (jF e)
   have F : ¬U8 w k:=fun e=>M (jG ⟨Aa,e⟩)
   have L:w.heap[k]? = some w.heap[k]:=Array.getElem?_eq_getElem O;rw [L];exact N k _ L (by simpa using E) (fun c U e=>F ⟨c,U,by rw [L,e]⟩)
def NM (s:lB):Lib.strCells ⟨s.toArray⟩=Lib.byteCells s:=rfl
def Yx (b:Nat) (l s:lB) (H:Nat) (w:wD) (h:BdF w b l H) (f:l.length+s.length<=140737488355328) :
 Calls prog 31 #[.pointer (some ⟨b,0,none⟩),str s] w fun e w'=>e = .returned (.tuple #[.int .i64 s.length,.nilIface])/\BdF w' b (l++s) w'.heap.size/\Fr (fun k=>k=b\/(b<=k/\U8 w k)) w w':=
 (JB 69 jt b b (Lib.byteCells l) ⟨s.toArray⟩ w h.is (by rw [Lib.byteCells_length];exact f) (Nat.le_of_lt h.lt)).mono fun e w' ⟨h1,h2,h3⟩=>
  ⟨h1,Yw (by rw [NM] at h2;simpa [Lib.byteCells] using h2),dF h3.below h3.kept⟩
def Wy (b:Nat) (l:lB) (H:Nat) (w:wD) (h:BdF w b l H) :
 Calls prog 35 #[.pointer (some ⟨b,0,none⟩)] w fun e w'=>e = .returned (str l)/\Fr (fun k=>k=b\/(b<=k/\U8 w k)) w w':=
 (NE 69 b b l w h.is (Nat.le_of_lt h.lt)).mono fun e w' ⟨h1,h2,h3⟩=>⟨h1,dF h3.below h3.kept⟩
def aW {w:wD} {k:Nat} {vs:lV} {T:TypeId} (h:TB w k vs T) (f:T≠5) : ¬U8 w k:=by
 rintro ⟨c,E,e⟩;rw [TB] at h;rw [h] at e;simp only [jJ,Obj.cells.injEq] at e;exact f e.2.1
def EX.text (e:EX):lB:=JA e (Lib.countByte e.g.text 10:Nat)++e.g.text
def Ch (l:List EX):lB:=l.flatMap EX.text
def GB (l:List EX):Prop:= ∃i,i<l.length /\ ∃e,l[i]? = some e/\Ez (l.take i) e.name=true
open Classical in
noncomputable def ED (l:List EX):lB×Int:=
 if 100<l.length then ([],5) else if ¬ ∀e∈l,e.valid then ([],3) else if GB l then ([],22) else if 65536<(Ch l).length then ([],5) else (Ch l,0)
def L6 {l:List EX} (h:100<l.length):ED l=([],5):=by unfold ED;rw [AH h]
def NN {l:List EX} (h : ¬ 100<l.length) (e:EX) (f:e∈l) (E : ¬e.valid):ED l=([],3):=by
 unfold ED;rw [At h,AH (fun h=>E (h e f))]
def NO {l:List EX} (h : ¬ 100<l.length) (f : ∀e∈l,e.valid) (E:GB l):ED l=([],22):=by
 unfold ED;rw [At h,At (fun h=>h f),AH E]
def KN {l:List EX} (h : ¬ 100<l.length) (f : ∀e∈l,e.valid) (E : ¬GB l) (F:65536<(Ch l).length):ED l=([],5):=by
 unfold ED;rw [At h,At (fun h=>h f),At E,AH F]
def Lp {l:List EX} (h : ¬ 100<l.length) (f : ∀e∈l,e.valid) (E : ¬GB l) (F : ¬ 65536<(Ch l).length):ED l=(Ch l,0):=by
 unfold ED;rw [At h,At (fun h=>h f),At E,At F]
def JT {vs:List VD} {b:BoxV} (h:(G1 vs b).2=0):b.ok:=by
 unfold G1 at h;split at h
 . rename_i h1;exact h1.1
 . cases h
def EX.valid_rng {e:EX} (h:e.valid):e.rng:=by
 obtain ⟨⟨-,h1,F⟩,-,-,f,-⟩:=h;have E:=JT f;unfold BoxV.ok at E;exact ⟨Aa,Aa,Aa,Aa,Aa⟩
def EX.valid_name {e:EX} (h:e.valid):e.name.length<=16:=De h.1.1
def Wz (e:EX) (n:Int) (h:e.rng) (E:0<=n/\n<=9223372036854775807):(JA e n).length<=e.name.length+1000:=by
 have h1:=Ln (FU e n) (fun p f=>⟨NB e n p f,Lm e n h E p f⟩);have F:=NC (FU e n);rw [Ph] at h1 F;unfold JA EI;generalize (FU e n).flatMap (fun p=>[p.1,Lib.itoa p.2])=r at *;rw [jy,jP,Lib.join_length];unfold Lib.lens at h1 ⊢;simp only [jP,km,jz,jD,kN,List.sum_cons];omega
def KO (s:lB):Lib.countByte s 10<=s.length:=by
 unfold Lib.countByte
 first|exact List.countP_le_length|exact List.count_le_length|simpa using List.countP_le_length
def EX.text_le {e:EX} (f:e.wf) (h:e.valid):e.text.length<=1000000002000:=by
 have h1:=PG.text_len e.g f.g h.2.1.1;have E:=KO e.g.text;have F:=Wz e (Lib.countByte e.g.text 10:Nat) (EX.valid_rng h) ⟨Aa,Aa⟩;have L:=EX.valid_name h;unfold EX.text;rw [jy];omega
def WA {l:List EX} {j:Nat} (h:j<l.length):Ch (l.take (j+1))=Ch (l.take j)++l[j].text:=by
 unfold Ch;rw [jK h,List.flatMap_append];simp
def aX {l:List EX} {j:Nat}:(Ch (l.take j)).length<=(Ch l).length:=by
 conv=>rhs;rw [<-kA j l]
 unfold Ch;rw [List.flatMap_append,jy];omega
def fJ (b:Nat) (l:lB) (H:Nat) (w:wD) (h:BdF w b l H) :
 Calls prog 34 #[.pointer (some ⟨b,0,none⟩)] w fun e w'=>e = .returned (.int .i64 l.length)/\w'=w:=
 (Tryz.Builder_Len_f b b (Lib.byteCells l) w h.is).mono fun e w' ⟨h1,h2⟩=>⟨by rw [h1,Lib.byteCells_length],h2⟩
attribute [local irreducible] Go.Calls
def aY {w:wD} {b:Nat} (h:TB w b [.pointer none,.slice none 0 0] 69):BdF w b [] w.heap.size:=by
 refine Yw (jF ⟨jL _,.slice none 0 0,h,⟨by simp [Lib.byteCells],jF ⟨rfl,rfl⟩⟩,by simp [kC]⟩)
set_option maxHeartbeats 8000000 in
def Jn (l:List EX) (hw : ∀e∈l,e.wf) (S:nP) (a:oA) (c:Nat) (hl:l.length<=1000000) (hc:l.length<=c) (w:wD) (f:EXs S w l a) (E:TabsF w) :
 Calls prog 15 #[.slice a l.length c] w fun r w'=>r = .returned (.tuple #[str (ED l).1,.int .i64 (ED l).2])/\Ext w w':=by
 have X:=kQ w;have f:=f.ltA;have ca:=E.g;have HW:=jC hw;clear hw;by_cases aa:100<l.length
 . rw [L6 aa];refine Ad func15 ntmps15 rfl rfl ?_;refine eK ?_;refine xT ?_;all_goals exact ⟨rfl,X⟩
 have cb:l.length<=100:=by omega
 have HB:=jC (fun e he Z=>NN aa e he Z);have HD:=jC (fun Z hd=>NO aa Z hd);have HG:=jC (fun Z hd hc=>KN aa Z hd hc);have HO:=jC (fun Z hd hc=>Lp aa Z hd hc);refine Ad func15 ntmps15 rfl rfl ?_;refine cS (C1 Pa (C1 Pa (cT (Al (cS (C1 Mv (C1 Pz (C1 V5 (cT (II (Aw ?_)))))))))));refine Ag (Al (cS (C1 Mv (C1 Pz (C1 Mv (cT ?_))))));refine Av ?_;refine AK (ι:=Nat) (fun j=>[(0,.slice a l.length c),(16,.slice a l.length c),(17,.int .i64 l.length),(18,.int .i64 j)])
  (fun j w'=>j<=l.length/\(∀e∈l.take j,e.valid)/\EXs (· < w.heap.size) w' l a/\TabsF w'/\Ext w w') (fun j=>l.length-j) 0 sB ⟨jN _,(fun e he=>by simp at he),f,E,X⟩ ?_
 clear f E X;rintro j w1 ⟨hj,hq,f,E,X⟩;have hz:=X.size;have HQ:=jC hq;clear hq;by_cases U:j<l.length
 . obtain ⟨kb,ko,rfl,-,hk⟩:=lw f Aa;obtain ⟨va,vc,pa,pc,ma,mc,M,L⟩:=hk j _ (jB U);have hm:=jH U;have ac:=HW.out _ hm;have hn:l[j].valid -> ∀e∈l.take (j+1),e.valid:=fun h e he=>by
    rw [jK U,List.mem_append,kP] at he;rcases he with he|rfl
    . exact HQ.out e he
    . exact h
   have F:=HB.out l[j] hm;clear hk hm;generalize l[j]=e at *;have HV:=jC (fun w1 h=>Ll e ac (· < w.heap.size) va vc pa pc ma mc w1 h);clear ac;by_cases Z:e.valid
   . rw [decide_eq_true Z] at HV;have HN:=jC (hn Z);clear hn Z F;unfold lJ at M HV;refine eK ?_;refine xA [_,_,_,_,_,_,_,_,_,_,_,_] ?_;intro cc cd ba;refine eI [_,_,_,_,_,_,_,_,_,_,_,_] ba ?_;intro ce ap bb cf cg;revert E X f M L;refine eE bb ?_;intro E X f M L;refine cN (CP [_,_,_,_,_,_,_,_,_,_,_,_] Ac rfl rfl rfl ap rfl rfl rfl (cC rfl (HV.out _ Af) ?_));rintro _ br ⟨⟨⟩,bc⟩;revert ap E X f M L;refine eY bc ?_;intro bs ap E X f M L;refine C1 Pt (cT (C7 rfl (Aw (Ae (Ag (Ak (C1 V7 (C1 Mv (Ai ?_)))))))));exact Ax (j+1) sB ⟨Aa,HN.out,Af,Af,X⟩ Aa
   . rw [decide_eq_false Z] at HV;rw [F Z];clear hn Z F;unfold lJ at M HV;refine eK ?_;refine xA [_,_,_,_,_,_,_,_,_,_,_,_] ?_;intro ch ci bd;refine eI [_,_,_,_,_,_,_,_,_,_,_,_] bd ?_;intro cj aq be ck cl;revert E X f M L;refine eE be ?_;intro E X f M L;refine cN (CP [_,_,_,_,_,_,_,_,_,_,_,_] Ac rfl rfl rfl aq rfl rfl rfl (cC rfl (HV.out _ Af) ?_));rintro _ bt ⟨⟨⟩,bf⟩;revert aq E X f M L;refine eY bf ?_;intro bu aq E X f M L;refine eK ?_;refine xT ?_;exact ⟨rfl,X⟩
 obtain rfl:j=l.length:=by omega
 have ak : ∀e∈l,e.valid:=by have:=HQ.out;rwa [jQ] at this
 clear HQ HB;have HA:=jC ak;clear ak;refine cS (C1 V3 (cT (Al (II (DN (AP (AP (Bt (Ag (Al (cS ?_)))))))))));refine C1 Mv (C1 Pz (C1 Mv (cT ?_)));refine Av ?_;refine AK (ι:=Nat) (fun j=>[(0,.slice a l.length c),(26,.slice a l.length c),(27,.int .i64 l.length),(28,.int .i64 j)])
  (fun j w'=>j<=l.length/\(∀i,i<j -> ∀e,l[i]? = some e->Ez (l.take i) e.name=false)/\EXs (· < w.heap.size) w' l a/\TabsF w'/\Ext w w') (fun j=>l.length-j) 0 sB ⟨jN _,(fun i h=>absurd h Aa),f,E,X⟩ ?_
 clear f E X;rintro j w2 ⟨hj,hq,f,E,X⟩;have cm:=X.size;have HQ:=jC hq;clear hq;by_cases U:j<l.length
 . obtain ⟨kb,ko,rfl,-,hk⟩:=lw f Aa;obtain ⟨va,vc,pa,pc,ma,mc,M,L⟩:=hk j _ (jB U);have HH:Hid (∀s w1,EXs (· < w.heap.size) w1 l (some ⟨kb,ko,none⟩)->Calls prog 29 #[.slice (some ⟨kb,ko,none⟩) j c,str s] w1 fun r w'=>r = .returned (.bool (Ez (l.take j) s))/\Ext w1 w'):=jC fun s w1 h=>by
    have:=dC (l.take j) (by rw [kn];omega) s _ _ c w1 (h.take j);rwa [kn,Nat.min_eq_left hj] at this
   have hn:Ez (l.take j) l[j].name=false -> ∀i,i<j+1 -> ∀e,l[i]? = some e->Ez (l.take i) e.name=false:=fun h i hi e he=>by
    rcases jX i j with h1|h1
    . exact HQ.out i h1 e he
    . obtain rfl:i=j:=by omega
      rw [jB U] at he;rw [<-jW he];exact h
   have hd:Ez (l.take j) l[j].name=true->GB l:=fun h=>⟨j,U,_,jB U,h⟩
   clear hk;generalize l[j]=e at *;unfold lJ at M;have HH:=jC (HH.out e.name);generalize Ez (l.take j) e.name=q at *;generalize e.name=t at *
   focus
    refine eK ?_;refine eA [_,_,_,_,_,_,_,_,_,_,_,_] ?_;intro cn co bg bh cp cq;revert E X f L M;refine eE bh ?_;intro E X f L M;refine C1 Pa (eS [_,_,_,_,_,_,_,_,_,_,_,_] bg ?_);intro av ab al bv;revert E X f L;refine eF al ?_;intro E X f L;clear M al;refine eK ?_;refine AD (fun wz=>Ext av wz) 5 (.pure 0 (.pure 1 (.pure 2 (.pure 3 (.pure 4 .tail))))) mixed Bx (Ab (Aj (Ab (Ab (Aj (Ab Am)))))) ?_;intro aw am _;have ad:(fun wz=>Ext av wz) aw:=am;simp only at ad;have ag:=ab;have ax:=E;have ay:=f;have az:=L;revert ab E X f L;refine eY am ?_;intro bw ab E X f L;refine ⟨ad,?_⟩;refine Tq rfl Mv (Tq rfl Mv (Tq rfl (Ks Ac rfl rfl rfl rfl rfl Aa) (Tq rfl Pg (Tq rfl (Db ag) ?_))));refine AE rfl (cC rfl (HH.out _ Af) ?_);rintro _ bx ⟨⟨⟩,a0⟩;revert ab E X f L;refine eY a0 ?_;intro bz ab E X f L;refine cT ?_;refine EO rfl (fun a1=>?_) (fun a1=>?_);refine eK ?_;refine xT ?_;rotate_left;refine Aw (Ae (Ag (Ak (C1 V7 (C1 Mv (Ai ?_))))));rotate_left
   . rw [HD.out HA.out (hd Af)];exact ⟨rfl,X⟩
   . exact Ax (j+1) sB ⟨Aa,hn Af,Af,Af,X⟩ Aa
 obtain rfl:j=l.length:=by omega
 have a2 : ¬GB l:=fun ⟨i,hi,e,he,h⟩=>by rw [HQ.out i hi e he] at h;cases h
 clear HQ HD;have HN:=jC a2;clear a2;refine eK ?_;refine G9 Dj rfl rfl ?_;intro ah bi ar bj;have bk:=ar.ext;have cr:=ar.pos;have ct:=ar.size;revert f E X;refine eE bk ?_;intro f E X;refine cT (Al (cS (C1 Mv (C1 Pz (C1 Mv (cT ?_))))));have F:=aY bj;refine Av ?_;refine AK (ι:=Nat×Nat) (fun y=>[(8,.pointer (some ⟨ah,0,none⟩)),(40,.slice a l.length c),(41,.int .i64 l.length),(42,.int .i64 y.1)])
  (fun y w'=>y.1<=l.length/\BdF w' ah (Ch (l.take y.1)) y.2/\y.2<=w'.heap.size/\(Ch (l.take y.1)).length<=65536/\EXs (· < w.heap.size) w' l a/\TabsF w'/\Ext w w'/\ah<w'.heap.size) (fun y=>l.length-y.1) (0,bi.heap.size) sB ⟨jN _,F,jL _,by simp [Ch],f,E,X,Aa⟩ ?_
 clear F f E X;rintro ⟨j,H⟩ w3 ⟨hj,F,hH,a3,f,E,X,cu⟩;simp only at hj F hH a3;have cv:=X.size;have cw:=E.g;refine CW.sub (m:=[(8,.pointer (some ⟨ah,0,none⟩)),(40,.slice a l.length c),(41,.int .i64 l.length),(42,.int .i64 j)]) ?_ sB;by_cases U:j<l.length
 . obtain ⟨kb,ko,rfl,-,hk⟩:=lw f Aa;obtain ⟨va,vc,pa,pc,ma,mc,M,L⟩:=hk j _ (jB U);have hm:=jH U;have Z:=HA.out _ hm;have ac:=HW.out _ hm;have ai:=WA U;have a4:(Ch (l.take (j+1))).length<=(Ch l).length:=aX;clear hk hm;generalize l[j]=e at *;have a5:=EX.text_le ac Z;have HP:=jC (fun (w1:wD) (h1:TabsF w1) h2=>Po e.g (· < w.heap.size) va vc pa pc ma mc w1 ac.g h1.t h1.g h2);have aj:e.g.ok=true:=Z.2.1.1;rw [AH aj,AH aj] at HP;have cx:=KO e.g.text;have cy:=PG.text_len e.g ac.g aj;have Y:=L.g;have HH:=jC (fun w1 h=>Yl e (Lib.countByte e.g.text 10:Nat) (EX.valid_rng Z) ⟨Aa,Aa⟩ (by have:=EX.valid_name Z;omega) va vc pa pc ma mc w1 h);rw [ai] at a4;unfold EX.text at a4 a5 ai;clear aj Z ac;generalize JA e (Lib.countByte e.g.text 10:Nat)=hd at *;generalize Ch (l.take j)=a6 at *;unfold lJ at M HH;generalize e.g.text=tx at *;have cz:hd.length+tx.length<=1000000002000:=by rw [<-jy];exact a5
   have bm:a6.length+(hd++tx).length<=140737488355328:=by omega
   focus
    refine eK ?_;refine G9 Dj rfl rfl ?_;intro c0 c1 ae V;refine MF Ac rfl rfl rfl rfl rfl rfl ae V rfl ?_;intro c2 ae V;have bn:=ae.ext;have c3:=ae.pos;have c4:=ae.size;revert E X f M L Y F;refine eE bn ?_;intro E X f M L Y F;refine eK ?_;refine CP [_,_,_,_,_,_] Ac rfl rfl rfl (TB.blk V) rfl rfl rfl (cC rfl (HP.out _ Af Af) ?_);rintro _ an ⟨⟨⟩,bo⟩;revert V E X f M L Y F;refine eY bo ?_;intro b0 V E X f M L Y F;refine eK ?_;refine AD (fun wz=>Ext an wz) 5 (.pure 0 (.pure 1 (.pure 4 (.fork 2 (.fork 3 .tail .none) .none)))) mixed Bx (Ab (Aj (Ab (Ab (Aj (Ab Am)))))) ?_;intro a7 ao _;have N:(fun wz=>Ext an wz) a7:=ao;simp only at N;have au:=V;have ax:=E;have ay:=f;have b1:=M;have az:=L;have bp:=Y;have bq:=F;revert V E X f M L Y F;refine eY ao ?_;intro b2 V E X f M L Y F;refine ⟨N,?_⟩;refine Tq rfl (xL [_,_,_,_,_,_,_,_,_,_,_,_] (fun wz hz=>(Blk.ext (TB.blk au) hz))) (Tq rfl Mv (Tq rfl Mv ?_));refine tC rfl rfl (Pj _ _) ?_;rintro _ b3 ⟨⟨⟩,rfl⟩;refine ⟨N,?_⟩;refine tC rfl rfl (HH.out _ Af) ?_;rintro _ b4 ⟨⟨⟩,a8⟩;revert N V E X f M L Y F;refine eY a8 ?_;intro b5 N V E X f M L Y F;refine ⟨N,?_⟩;refine AE rfl (C1 (MD rfl rfl Aa) (cC rfl (Yx _ _ _ _ _ Af bm) ?_));rintro _ b6 ⟨⟨⟩,⟨b7,O⟩⟩;have b8:=O.size;have V:=TB.fr V O (fun e=>e.elim (fun e=>by omega) (fun e=>aW Af Ao e.2));have E:=TabsF.fr E O (fun k hk=>hk.elim (fun e=>by omega) (fun e=>by have:=e.1;omega));have X:=Ext.fr X O (fun k hk=>hk.elim (fun e=>by omega) (fun e=>by have:=e.1;omega));have f:=EXs.fr f O (fun b hb hT=>hT.elim (fun e=>by (try dsimp only at hb);omega) (fun e=>by have:=e.1;(try dsimp only at hb);omega));clear M;have L:=EX.sits.fr L O (fun b hb hT=>hT.elim (fun e=>by (try dsimp only at hb);omega) (fun e=>by have:=e.1;(try dsimp only at hb);omega));have Y:=PG.sits.fr Y O (fun b hb hT=>hT.elim (fun e=>by (try dsimp only at hb);omega) (fun e=>by have:=e.1;(try dsimp only at hb);omega));clear F O;refine cN (cC rfl (fJ _ _ _ _ Af) ?_);rintro _ b9 ⟨⟨⟩,rfl⟩;refine eK ?_
    refine AL rfl (fun a9=>?_) (fun a9=>?_);refine eK ?_;refine xT ?_;rotate_left;refine Aw (Ae (Ag (Ak (C1 V7 (C1 Mv (Ai ?_))))));rotate_left
   . rw [HG.out HA.out HN.out Aa];exact ⟨rfl,X⟩
   . exact Ax (j+1,_) sB ⟨by (try dsimp only);omega,by dsimp only;rw [ai];assumption,jL _,by dsimp only;rw [ai];omega,Af,Af,X,Aa⟩ (by (try dsimp only);omega)
 obtain rfl:j=l.length:=by omega
 rw [jQ] at F a3;rw [HO.out HA.out HN.out Aa];clear HO HG HA HN;generalize Ch l=a6 at *;refine eK ?_;refine cC rfl (Wy _ _ _ _ Af) ?_;rintro _ c5 ⟨⟨⟩,af⟩;have c6:=af.size;have f:=f.fr af Aa;have E:=TabsF.fr E af (fun k hk=>hk.elim (fun e=>by omega) (fun e=>by have:=e.1;omega));have X:=Ext.fr X af (fun k hk=>hk.elim (fun e=>by omega) (fun e=>by have:=e.1;omega));clear F af;refine eK ?_;refine xT ?_;exact ⟨rfl,X⟩
end Bk
namespace Bk
open Go Go.RowKit Go.Proofs
def B9 (s:lB):List lB:=Lib.split s [32]
def Pp (f:lB) : ∀(k:Nat) (s x:lB),x∈Lib.splitK f 0 k s->x.length<=s.length
 | 0,s,x,h=>by simp only [Lib.splitK,kP] at h;subst h;exact jL _
 | k+1,s,x,h=>by
  rw [Lib.splitK] at h;split at h
  . simp only [kP] at h;subst h;exact jL _
  . rcases jR.1 h with h|h
    . rw [h,kn];omega
    . have:=Pp f k _ x h;rw [List.length_drop] at this;omega
def Yy {s x:lB} (h:x∈B9 s):x.length<=s.length:=Pp _ _ s x h
def SplitR (s:lB) (w:wD):Ending->wD->Prop:=fun e w'=> ∃b,e = .returned (.slice (some ⟨b,0,none⟩) (B9 s).length (B9 s).length)/\Blk w' b ((B9 s).map str)/\w.heap.size<=b/\b<w'.heap.size/\Ext w w'
def SplitR.ret {s:lB} {w w':wD} {e:Ending} (h:SplitR s w e w') : ∃v,e = .returned v:=by
 obtain ⟨_,h,-⟩:=h;exact ⟨_,h⟩
def aZ (s:lB) (N:s.length<=1000000) (w:wD) (h:Errs2 w):Calls prog 110 #[str s,str [32]] w (SplitR s w):=by
 obtain ⟨-,-,m,F⟩:=h;refine (Tryz.strings_Split ⟨s.toArray⟩ ⟨#[32]⟩ m w (by rw [FE];omega) F Ao).mono ?_;rintro e w' ⟨rfl,rfl⟩;have L:(B9 s).length=Lib.countB ⟨s.toArray⟩ ⟨#[32]⟩+1:=by
  have h1:=Lib.splitB_all ⟨#[32]⟩ Ao 0 _ ⟨s.toArray⟩ rfl;have f:=congrArg List.length (Lib.splitB_data ⟨#[32]⟩ 0 (Lib.countB ⟨s.toArray⟩ ⟨#[32]⟩) ⟨s.toArray⟩);rw [List.length_map,h1] at f;exact f.symm
 have M:(Lib.splitB ⟨#[32]⟩ 0 (Lib.countB ⟨s.toArray⟩ ⟨#[32]⟩) ⟨s.toArray⟩).map Value.string=(B9 s).map str:=by
  have f:=Lib.splitB_data ⟨#[32]⟩ 0 (Lib.countB ⟨s.toArray⟩ ⟨#[32]⟩) ⟨s.toArray⟩;have E:=congrArg (List.map str) f;rw [List.map_map] at E;exact E
 refine ⟨w.heap.size,by rw [L],⟨9,?_⟩,jL _,?_,(kQ w).alloc _⟩
 . rw [<-M];simp only [World.alloc,Array.getElem?_push_size]
 . show w.heap.size<(w.heap.push _).size;rw [Array.size_push];omega
def E5 (s:lB):lB×lB×Bool:=Lib.cut s [10]
def gT (s:lB) (E:s.length<=1000000) (w:wD) (h:Errs2 w):Calls prog 69 #[str s,str [10]] w fun e w'=>e = .returned (.tuple #[str (E5 s).1,str (E5 s).2.1,.bool (E5 s).2.2])/\Ext w w':=by
 obtain ⟨-,-,m,f⟩:=h;refine (Tryz.strings_Cut ⟨s.toArray⟩ ⟨#[10]⟩ m w (by rw [FE];omega) f).mono ?_;rintro e w' ⟨rfl,n,rfl⟩;exact ⟨rfl,VP w n⟩
def hwords:List lB:=[[112,111,105,110,116,115],[102,117,101,108],[118,97,108,117,101],[108,101,110,103,116,104],[105,110,112,117,116],[108,105,110,101,115]]
def DA (ws:List lB) (i:Nat):Int:=(Hs (ws.getD (3+2*i) [])).1
def SE (ws:List lB) (i:Nat):Prop:=ws.getD (2+2*i) []=hwords.getD i []/\(Hs (ws.getD (3+2*i) [])).2=true
instance (ws:List lB) (i:Nat):Decidable (SE ws i):=by unfold SE;infer_instance
def Pq (ws:List lB):Prop:=ws.length=14/\ws.getD 0 []=[101,120,101,114,99,105,115,101]/\AU (ws.getD 1 [])=true /\ ∀i,i<6->SE ws i
instance (ws:List lB):Decidable (Pq ws):=by unfold Pq;infer_instance
def Pr (ws:List lB) (j:Nat):EX:=⟨ws.getD 1 [],if 0<j then DA ws 0 else 0,if 1<j then DA ws 1 else 0,⟨if 2<j then DA ws 2 else 0,if 3<j then DA ws 3 else 0,if 4<j then DA ws 4 else 0⟩,Yg⟩
def dG (ws:List lB):EX:=Pr ws 6
def zeroEX:EX:=⟨[],0,0,⟨0,0,0⟩,Yg⟩
def EX.cells0 (e:EX):lV:=e.cells none 0 none 0 none 0
def SF (ws:List lB):Value:=if Pq ws then .tuple #[.agg (dG ws).cells0.toArray,.int .i64 (DA ws 5),.bool true] else .tuple #[.agg zeroEX.cells0.toArray,.int .i64 0,.bool false]
def WB (f:List lB) (j:Nat) (h:j<5):(Pr f j).cells0.set (1+j) (.int .i64 (DA f j))=(Pr f (j+1)).cells0:=by
 rcases (show j=0\/j=1\/j=2\/j=3\/j=4 by omega) with rfl|rfl|rfl|rfl|rfl<;>rfl
def T4 (s:lB):0<=(Hs s).1/\(Hs s).1<=1000000000:=by
 unfold Hs;split
 . split
   . rename_i h;exact h.1
   . simp
 . simp
def WC (f E:Nat) (w:wD) (g:Nat) (F:Blk w g (FB f E)) (j:Nat) (L:j<5):Row w ⟨g,0+j*2,none⟩ [str (hwords.getD j []),.pointer (some ⟨f,1+j,none⟩)]:=by
 have h:=F.row.sub (j*2) 2;rcases (show j=0\/j=1\/j=2\/j=3\/j=4 by omega) with rfl|rfl|rfl|rfl|rfl<;>exact h
def T5 (h f:Nat) (w:wD) (g:Nat) (E:Blk w g (FB h f)):Row w ⟨g,0+5*2,none⟩ [str (hwords.getD 5 []),.pointer (some ⟨f,0,none⟩)]:=E.row.sub (5*2) 2
def L7 {P:Program} {m:Nat} {l:Sl} {tab:Tab} {ty:TypeId} {w:wD} {x y:Operand} {t g i:Nat} {s:Sk} {vs:lV} {u:Int} (TT:TabOk P tab) (ht:AC tab t=some (s,1)) (hx:ev l x=some (.pointer (some ⟨g,i,none⟩))) (hy:ev l y=some (.int .i64 u))
 (hb:Blk w g vs) (hi:i<vs.length) :
 Cz P m l (.store t x y) ty w (Qj fun w'=>Blk w' g (vs.set i (.int .i64 u))/\Fr (· = g) w w'/\w'.heap.size=w.heap.size):=by
 have hd:=H5 (P:=P) (n:=m) (l:=l) (ty:=ty) (us:=[.int .i64 u]) TT ht hx hy rfl rfl rfl hb (by rw [Nat.ble_eq];simp;omega);unfold Cz at hd ⊢;intro a dst pos after gd next Q ha hn b;refine hd a dst pos after gd next Q ha (fun v' w' h=>h.elim) (fun w' hP=>b w' ⟨?_,hP.fr,hP.size⟩);have h1:=hP.blk;simpa [Bl] using h1
attribute [local irreducible] Go.Calls
def Jo {w:wD} {b:Nat} {f:List lB} (h:Blk w b (f.map str)) (i:Nat) (F:i<f.length):Row w ⟨b,i,none⟩ [str (f.getD i [])]:=fun k v E=>by
 match k,E with
 | 0,E=>
  simp only [List.getElem?_cons_zero,jJ] at E;subst E;have:=h.row.at (i:=i) (v:=str (f.getD i [])) (by rw [List.getElem?_map,jB F,List.getD_eq_getElem?_getD,jB F];rfl);simpa [kI] using this
def U2 {s:lB} (i:Nat):((B9 s).getD i []).length<=s.length:=by
 rw [List.getD_eq_getElem?_getD];cases h:(B9 s)[i]? with
 | none=>simp
 | some x=>exact Yy (List.mem_of_getElem? h)
set_option maxHeartbeats 8000000 in
def QO (s:List UInt8) (hs:s.length<=1000000) (w:World) (F:Errs2 w) (E:TabsF w) :
 Calls prog 70 #[str s] w fun r w'=>r = .returned (SF (B9 s))/\Ext w w':=by
 have X:=kQ w;have c4:=E.g;have HF:=jC (fun eb lb w1=>Sh eb lb w1);have HS:=jC (fun w1 h=>aZ s hs w1 h);have HL:=jC (fun i=>U2 (s:=s) i)
 have c5:(B9 s).length<=1000002:=by
  have h1:(B9 s).length<=Lib.count s [32]+1:=by
   have:=congrArg List.length (Lib.splitB_data ⟨#[32]⟩ 0 (Lib.count s [32]) ⟨s.toArray⟩);have h2:=Lib.splitB_length_le ⟨#[32]⟩ 0 (Lib.count s [32]) ⟨s.toArray⟩;rw [List.length_map] at this;have h3:(B9 s).length=(Lib.splitB ⟨#[32]⟩ 0 (Lib.count s [32]) ⟨s.toArray⟩).length:=this.symm
   omega
  have h4:Lib.count s [32]<=s.length:=by rw [Lib.count_one];exact List.count_le_length
  omega
 refine Ad func70 ntmps70 rfl rfl ?_
 refine cS ?_;refine eA [_,_,_,_,_,_,_,_,_,_,_,_] ?_;intro b1 w2 h5 x6 p7 z8;revert F E X;refine eE x6 ?_;intro F E X;clear x6;refine C1 Pa (C1 Pa (cN ?_));refine eA [_,_,_,_,_,_,_,_,_,_,_,_] ?_;intro b9 c6 U bp c7 c8;revert h5 F E X;refine eE bp ?_;intro h5 F E X;clear bp;refine cN ?_;refine Hc [_] Dj rfl rfl ?_;intro ax ch bq;refine eI [_] bq ?_;clear bq ch;intro c9 V br da db;revert U h5 F E X;refine eE br ?_;intro U h5 F E X;clear br;refine cN ?_;refine eQ rfl (HF.out _ _ _) ?_;rintro _ dc ⟨ay,⟨⟨⟩,⟨Y,⟨dd,bi⟩⟩⟩⟩;have de:=bi.size;revert V U h5 F E X;refine eE bi ?_;intro V U h5 F E X;clear bi;refine C1 Pa (cN (C1 Mv ?_));refine eQ rfl (HS.out _ Af) ?_;rintro _ df ⟨a0,⟨⟨⟩,⟨Z,⟨dg,⟨dh,bj⟩⟩⟩⟩⟩;have z37:=bj.size;revert Y V U h5 F E X;refine eE bj ?_;intro Y V U h5 F E X;clear bj;refine C1 Pa (cT (Al ?_))
 clear HF HS
 generalize B9 s=ws at *
 rcases (Decidable.em (ws.length=14)).symm with hl|hl
 . have e:SF ws = .tuple #[.agg zeroEX.cells0.toArray,.int .i64 0,.bool false]:=At (fun h=>hl h.1);rw [e]
   refine cS (C1 Mv (C1 Pz (C1 Mv (C1 Pz ?_))));refine C1 (Eo rfl rfl (j7 _ Aa)) ?_;refine C1 V7 (C1 V2 (C1 Mv (gF (gF (gF (gF (C1 Vu (C1 Mv (Ba rfl rfl rfl (rfl) rfl (Ba rfl rfl rfl (rfl) rfl (Ba rfl rfl rfl (rfl) rfl ?_)))))))))));refine Ba rfl rfl rfl (rfl) rfl (Ba rfl rfl rfl (rfl) rfl (C1 (B4 rfl rfl rfl) (cT (Em rfl (cS (C1 (DP [_,_,_,_,_,_,_,_,_,_,_,_] Ac Dj rfl rfl rfl rfl) ?_))))));refine eS [_,_,_,_,_,_,_,_,_,_,_,_] h5 ?_;intro di ci bs dk;clear h5;revert Y V U F E X Z;refine eF bs ?_;intro Y V U F E X Z;clear bs;refine C1 Pa (C1 Pa (cT (BK (AI (Dc rfl Ac rfl rfl rfl ci rfl rfl rfl ?_)))))
   exact ⟨rfl,X⟩
 have r0:=Jo Z 0 Aa;have r1:=Jo Z 1 Aa;have bt:=HL.out 1
 rcases (Decidable.em (ws.getD 0 []=[101,120,101,114,99,105,115,101])).symm with h0|h0
 . have e:SF ws = .tuple #[.agg zeroEX.cells0.toArray,.int .i64 0,.bool false]:=At (fun h=>h0 h.2.1);rw [e];clear e bt r1
   generalize ws.getD 0 []=x0 at *
   refine cS (C1 Mv (C1 Pz (C1 Mv (C1 Pz ?_))));refine C1 (Eo rfl rfl (j7 _ Aa)) ?_;refine C1 V7 (C1 V2 (C1 Mv (LG (C1 Mv (LG (C1 Pi (LG (C1 (Pw r0) (LG (C1 V9 (C1 OK ?_)))))))))));refine C1 Mv (Vv (Vv (Vv (Vv (Vv (C1 Y5 (cT (Em rfl (cS (C1 (DP [_,_,_,_,_,_,_,_,_,_,_,_] Ac Dj rfl rfl rfl rfl) ?_))))))))));refine eS [_,_,_,_,_,_,_,_,_,_,_,_] h5 ?_;intro dl cj bu dm;clear h5;revert Y V U F E X Z r0;refine eF bu ?_;intro Y V U F E X Z r0;clear bu;refine C1 Pa (C1 Pa (cT (BK (AI (Dc rfl Ac rfl rfl rfl cj rfl rfl rfl ?_)))))
   exact ⟨rfl,X⟩
 rw [h0] at r0;have HN:=jC (fun w1=>If (ws.getD 1 []) w1 Aa)
 cases hnm:AU (ws.getD 1 [])
 . have e:SF ws = .tuple #[.agg zeroEX.cells0.toArray,.int .i64 0,.bool false]:=At (fun h=>by have:=h.2.2.1;rw [hnm] at this;cases this);rw [e];rw [hnm] at HN;clear e bt hnm
   generalize ws.getD 1 []=x1 at *
   refine cS (C1 Mv (C1 Pz (C1 Mv (C1 Pz ?_))));refine C1 (Eo rfl rfl (j7 _ Aa)) ?_;refine C1 V7 (C1 V2 (C1 Mv (LG (C1 Mv (LG (C1 Pi (LG (C1 (Pw r0) (LG (C1 V9 (C1 OK ?_)))))))))));refine C1 Mv (Kb (C1 Mv (Kb (C1 Pi (Kb (C1 (iA r1) (Kb (cC rfl (HN.out _) ?_))))))));rintro _ dn ⟨⟨⟩,bk⟩;have dp:=bk.size;revert Y V U h5 F E X Z r0 r1;refine eE bk ?_;intro Y V U h5 F E X Z r0 r1;clear bk;refine Kb (C1 Pt (C1 Y7 (cT (Em rfl (cS (C1 (DP [_,_,_,_,_,_,_,_,_,_,_,_] Ac Dj rfl rfl rfl rfl) ?_))))));refine eS [_,_,_,_,_,_,_,_,_,_,_,_] h5 ?_;intro dq ck bv dr;clear h5;revert Y V U F E X Z r0 r1;refine eF bv ?_;intro Y V U F E X Z r0 r1;clear bv;refine C1 Pa (C1 Pa (cT (BK (AI (Dc rfl Ac rfl rfl rfl ck rfl rfl rfl ?_)))))
   exact ⟨rfl,X⟩
 rw [hnm] at HN
 refine cS (C1 Mv (C1 Pz (C1 Mv (C1 Pz ?_))));refine C1 (Eo rfl rfl (j7 _ Aa)) ?_;refine C1 V7 (C1 V2 (C1 Mv (LG (C1 Mv (LG (C1 Pi (LG (C1 (Pw r0) (LG (C1 V9 (C1 OK ?_)))))))))));refine C1 Mv (Kb (C1 Mv (Kb (C1 Pi (Kb (C1 (iA r1) (Kb (cC rfl (HN.out _) ?_))))))));rintro _ ds ⟨⟨⟩,bm⟩;have dt:=bm.size;revert Y V U h5 F E X Z r0 r1;refine eE bm ?_;intro Y V U h5 F E X Z r0 r1;clear bm;refine Kb (C1 Pt (C1 Y7 (cT (C7 rfl (Aw (Ag (cS (C1 Mv (C1 Pi (C1 (iA r1) (C1 Pg ?_)))))))))));refine eV [_] [_,_,_,_,_,_,_,_,_,_,_,_] U ?_;intro du bw bx dv;clear U;revert Y V h5 F E X Z r0 r1;refine eF bx ?_;intro Y V h5 F E X Z r0 r1;clear bx;refine cT (Al (cS (C1 Mv (C1 Pz (C1 Mv (cT ?_))))))
 refine Av ?_;refine AK (ι:=Nat) (fun j=>[(2,.pointer (some ⟨b1,0,none⟩)),(5,.pointer (some ⟨b9,0,none⟩)),(6,.pointer (some ⟨ax,0,none⟩)),(8,.slice (some ⟨a0,0,none⟩) ws.length ws.length),(43,.slice (some ⟨ay,0,none⟩) 6 6),(44,.int .i64 6),(45,.int .i64 j)])
  (fun j w'=>j<=6/\(∀i,i<j->SE ws i)/\Blk w' b9 (Pr ws j).cells0/\Blk w' ax [.int .i64 (if 5<j then DA ws 5 else 0)]/\Blk w' b1 zeroEX.cells0/\Blk w' ay (FB b9 ax)/\Blk w' a0 (ws.map str)/\Errs2 w'/\TabsF w'/\Ext w w'/\ay<w'.heap.size/\a0<w'.heap.size)
  (fun j=>6-j) 0 sB ⟨jN _,fun i h=>absurd h Aa,bw,V,h5,Y,Z,F,E,X,Y.lt,Z.lt⟩ ?_
 clear bw V h5 Y Z F E X r0 r1 HN;rintro j w3 ⟨hj,hq,N,f,h1,L,M,F,E,X,dw,dx⟩;have HQ:=jC hq;clear hq;have hz:=X.size
 by_cases cl:j<6
 . have ra:Row w3 ⟨a0,0+((2:Int)+2*(j:Int)).toNat*1,none⟩ [str (ws.getD (2+2*j) [])]:=by rw [show 0+((2:Int)+2*(j:Int)).toNat*1=2+2*j from by omega];exact Jo M (2+2*j) Aa
   have rb:Row w3 ⟨a0,0+((3:Int)+2*(j:Int)).toNat*1,none⟩ [str (ws.getD (3+2*j) [])]:=by rw [show 0+((3:Int)+2*(j:Int)).toNat*1=3+2*j from by omega];exact Jo M (3+2*j) Aa
   have bn:=HL.out (3+2*j)
   have a1:SE ws j -> ∀i,i<j+1->SE ws i:=fun h i hi=>by
    rcases jX i j with h1|h1
    . exact HQ.out i h1
    . obtain rfl:i=j:=by omega
      exact h
   have az : ¬SE ws j->SF ws = .tuple #[.agg zeroEX.cells0.toArray,.int .i64 0,.bool false]:=fun h=>At (fun h'=>h (h'.2.2.2 j cl))
   obtain ⟨fb,fo,O,hf⟩ : ∃fb fo,Row w3 ⟨ay,0+j*2,none⟩ [str (hwords.getD j []),.pointer (some ⟨fb,fo,none⟩)]/\(j<5/\fb=b9/\fo=1+j\/j=5/\fb=ax/\fo=0):=by
    rcases jX j 5 with h|h
    . exact ⟨_,_,WC b9 ax w3 ay L j h,jF ⟨h,rfl,rfl⟩⟩
    . obtain rfl:j=5:=by omega
      exact ⟨_,_,T5 b9 ax w3 ay L,jG ⟨rfl,rfl,rfl⟩⟩
   have HU:=jC (fun w1 h1 h2=>T0 (ws.getD (3+2*j) []) Aa w1 h1 h2)
   unfold SE at a1 az
   have bo:DA ws j=(Hs (ws.getD (3+2*j) [])).1:=rfl
   have ar:j<5->(Pr ws j).cells0.set (1+j) (.int .i64 (Hs (ws.getD (3+2*j) [])).1)=(Pr ws (j+1)).cells0:=fun h=>WB ws j h
   generalize ws.getD (2+2*j) []=xa at *
   generalize ws.getD (3+2*j) []=xb at *
   generalize hwords.getD j []=wd at *
   by_cases hw:xa=wd
   . subst hw
     cases hn:(Hs xb).2
     . rw [az (fun h=>by rw [hn] at h;cases h.2)];rw [hn] at HU;clear a1 az bo ar hn bn
       generalize (Hs xb).1=nn at *
       refine cS (C1 V3 (cT (Al (dO (Aw (Ag (Al (Av (cS (C1 Mv (C1 Pi ?_)))))))))));refine C1 (Zn O) ?_;refine eA [_,_] ?_;intro dy dz bz b0 d0 d1;revert N f h1 L M F E X ra rb O;refine eE b0 ?_;intro N f h1 L M F E X ra rb O;clear b0;refine C1 Pa ?_;refine eS [_,_] bz ?_;intro b2 ac bc cn;clear bz;revert N f h1 L M F E X ra rb O;refine eF bc ?_;intro N f h1 L M F E X ra rb O;clear bc;refine cT (Al ?_);refine AD (fun wz=>Ext b2 wz) 13 (.pure 0 (.pure 1 (.pure 2 (.pure 3 (.pure 4 (.pure 5 (.pure 6 (.pure 7 (.pure 8 (.pure 9 (.pure 10 (.pure 11 (.pure 12 .tail))))))))))))) mixed Bx (Ab (Aj (Ab (Ab (Aj (Ab Am)))))) ?_;intro b3 au _;have ao:(fun wz=>Ext b2 wz) b3:=au;simp only at ao;have a5:=ac;have ad:=N;have aa:=f;have ah:=h1;have ai:=L;have aj:=M;have ak:=F;have al:=E;have ae:=ra;have af:=rb;have an:=O;have co:=au.size;revert ac N f h1 L M F E X ra rb O;refine eE au ?_;intro ac N f h1 L M F E X ra rb O;clear au;refine ⟨ao,?_⟩;refine Tq rfl Mv (Tq rfl Mv ?_);refine Tq rfl (Eo rfl rfl (j7 _ Aa)) ?_;refine Tq rfl V7 (Tq rfl Pi (Tq rfl (Ay Ac rfl rfl rfl (fun wz hz=>lE (ll ae hz) rfl)) (Tq rfl Mv (Tq rfl Mv ?_))));refine Tq rfl (Eo rfl rfl (j7 _ Aa)) ?_
       refine Tq rfl V7 (Tq rfl Pi (Tq rfl (Ay Ac rfl rfl rfl (fun wz hz=>lE (ll af hz) rfl)) (Tq rfl Pa ?_)));clear ao a5 ad aa ah ai aj ak al ae af an;refine AE rfl (C1 Pa (cN (C1 Mv ?_)));refine cC rfl (HU.out _ Af Af) ?_;rintro _ cp ⟨⟨⟩,a2⟩;have cq:=a2.size;revert ac N f h1 L M F E X ra rb O;refine eE a2 ?_;intro ac N f h1 L M F E X ra rb O;clear a2;refine C1 Mv (C1 Px (C1 Px (C1 Pa (C1 Pa (cT (Al (cS (C1 Mv (C1 Pg (C1 (Pl ac) (C1 V9 ?_)))))))))));refine C1 Mv (Bd rfl rfl rfl (EH (not_not_intro rfl)) (C1 Mv (Bd rfl rfl rfl (EH (not_not_intro rfl)) (C1 Pt (C1 (Qn (not_not_intro rfl)) (cT (Em rfl (cS (C1 (DP [_,_,_,_,_,_,_,_,_,_,_,_] Ac Dj rfl rfl rfl rfl) ?_)))))))));refine eS [_,_,_,_,_,_,_,_,_,_,_,_] h1 ?_;intro cr b4 bd ct;clear h1;revert ac N f L M F E X ra rb O;refine eF bd ?_;intro ac N f L M F E X ra rb O;clear bd;refine C1 Pa (C1 Pa (cT (BK (AI (AY (AI (AI (AY (AI (Dc rfl Ac rfl rfl rfl b4 rfl rfl rfl ?_))))))))))
       exact ⟨rfl,X⟩
     . have be:=a1 ⟨rfl,hn⟩;rw [hn] at HU;clear a1 az hn bn
       generalize (Hs xb).1=nn at *
       have HO:=jC be;clear be;have HT:=jC ar;clear ar
       refine cS (C1 V3 (cT (Al (dO (Aw (Ag (Al (Av (cS (C1 Mv (C1 Pi ?_)))))))))));refine C1 (Zn O) ?_;refine eA [_,_] ?_;intro d2 d3 b5 b6 d4 d5;revert N f h1 L M F E X ra rb O;refine eE b6 ?_;intro N f h1 L M F E X ra rb O;clear b6;refine C1 Pa ?_;refine eS [_,_] b5 ?_;intro b7 ab bf cu;clear b5;revert N f h1 L M F E X ra rb O;refine eF bf ?_;intro N f h1 L M F E X ra rb O;clear bf;refine cT (Al ?_);refine AD (fun wz=>Ext b7 wz) 13 (.pure 0 (.pure 1 (.pure 2 (.pure 3 (.pure 4 (.pure 5 (.pure 6 (.pure 7 (.pure 8 (.pure 9 (.pure 10 (.pure 11 (.pure 12 .tail))))))))))))) mixed Bx (Ab (Aj (Ab (Ab (Aj (Ab Am)))))) ?_;intro b8 av _;have ap:(fun wz=>Ext b7 wz) b8:=av;simp only at ap;have a6:=ab;have ad:=N;have aa:=f;have ah:=h1;have ai:=L;have aj:=M;have ak:=F;have al:=E;have ae:=ra;have af:=rb;have an:=O;have cv:=av.size;revert ab N f h1 L M F E X ra rb O;refine eE av ?_;intro ab N f h1 L M F E X ra rb O;clear av;refine ⟨ap,?_⟩;refine Tq rfl Mv (Tq rfl Mv ?_);refine Tq rfl (Eo rfl rfl (j7 _ Aa)) ?_;refine Tq rfl V7 (Tq rfl Pi (Tq rfl (Ay Ac rfl rfl rfl (fun wz hz=>lE (ll ae hz) rfl)) (Tq rfl Mv (Tq rfl Mv ?_))));refine Tq rfl (Eo rfl rfl (j7 _ Aa)) ?_
       refine Tq rfl V7 (Tq rfl Pi (Tq rfl (Ay Ac rfl rfl rfl (fun wz hz=>lE (ll af hz) rfl)) (Tq rfl Pa ?_)));clear ap a6 ad aa ah ai aj ak al ae af an;refine AE rfl (C1 Pa (cN (C1 Mv ?_)));refine cC rfl (HU.out _ Af Af) ?_;rintro _ cw ⟨⟨⟩,a3⟩;have cx:=a3.size;revert ab N f h1 L M F E X ra rb O;refine eE a3 ?_;intro ab N f h1 L M F E X ra rb O;clear a3;refine C1 Mv (C1 Px (C1 Px (C1 Pa (C1 Pa (cT (Al (cS (C1 Mv (C1 Pg (C1 (Pl ab) (C1 V9 ?_)))))))))));refine C1 Mv (Bd rfl rfl rfl (EH (not_not_intro rfl)) (C1 Mv (Bd rfl rfl rfl (EH (not_not_intro rfl)) (C1 Pt (C1 (Qn (not_not_intro rfl)) (cT (C7 rfl (Aw (Ag (Ak (C1 Pf ?_)))))))))));refine C1 (Pl ab) (C1 Mv (C1 Pn ?_))
       rcases hf with ⟨h5,rfl,rfl⟩|⟨rfl,rfl,rfl⟩
       . replace HT:=jC (HT.out h5)
         refine DX (L7 Ac rfl rfl rfl Af (by show 1+j<12;omega)) ?_;refine Hk ?_;rintro _ d6 ⟨d7,⟨a7,d8⟩⟩;have d9:=a7.size;revert f h1 M F E X ra rb;refine eF a7 ?_;intro f h1 M F E X ra rb;clear N;revert L ab O;refine eF a7 ?_;intro L ab O;clear a7;refine Ai (Ae (Ag (Ak (C1 V7 (C1 Mv (Ai ?_))))))
         exact Ax (j+1) sB ⟨Aa,HO.out,by rw [<-HT.out];assumption,by rw [At Aa] at f ⊢;exact f,h1,L,M,F,E,X,Aa,Aa⟩ Aa
       . clear HT
         refine DX (L7 Ac rfl rfl rfl Af (by show 0<1;omega)) ?_;refine Hk ?_;rintro _ ea ⟨ec,⟨a8,ed⟩⟩;have ee:=a8.size;revert h1 M F E X N ra rb L;refine eF a8 ?_;intro h1 M F E X N ra rb L;clear f;revert ab O;refine eF a8 ?_;intro ab O;clear a8;refine Ai (Ae (Ag (Ak (C1 V7 (C1 Mv (Ai ?_))))))
         exact Ax 6 sB ⟨Aa,HO.out,N,by show Blk _ _ [.int .i64 (DA ws 5)];rw [bo];assumption,h1,L,M,F,E,X,Aa,Aa⟩ Aa
   . rw [az (fun h=>hw h.1)];clear a1 az bo ar bn
     generalize (Hs xb).1=nn at *
     generalize (Hs xb).2=ok at *
     refine cS (C1 V3 (cT (Al (dO (Aw (Ag (Al (Av (cS (C1 Mv (C1 Pi ?_)))))))))));refine C1 (Zn O) ?_;refine eA [_,_] ?_;intro ef eg ca cb eh ei;revert N f h1 L M F E X ra rb O;refine eE cb ?_;intro N f h1 L M F E X ra rb O;clear cb;refine C1 Pa ?_;refine eS [_,_] ca ?_;intro cc ag bg cy;clear ca;revert N f h1 L M F E X ra rb O;refine eF bg ?_;intro N f h1 L M F E X ra rb O;clear bg;refine cT (Al ?_);refine AD (fun wz=>Ext cc wz) 13 (.pure 0 (.pure 1 (.pure 2 (.pure 3 (.pure 4 (.pure 5 (.pure 6 (.pure 7 (.pure 8 (.pure 9 (.pure 10 (.pure 11 (.pure 12 .tail))))))))))))) mixed Bx (Ab (Aj (Ab (Ab (Aj (Ab Am)))))) ?_;intro cd aw _;have aq:(fun wz=>Ext cc wz) cd:=aw;simp only at aq;have a9:=ag;have ad:=N;have aa:=f;have ah:=h1;have ai:=L;have aj:=M;have ak:=F;have al:=E;have ae:=ra;have af:=rb;have an:=O;have cz:=aw.size;revert ag N f h1 L M F E X ra rb O;refine eE aw ?_;intro ag N f h1 L M F E X ra rb O;clear aw;refine ⟨aq,?_⟩;refine Tq rfl Mv (Tq rfl Mv ?_);refine Tq rfl (Eo rfl rfl (j7 _ Aa)) ?_;refine Tq rfl V7 (Tq rfl Pi (Tq rfl (Ay Ac rfl rfl rfl (fun wz hz=>lE (ll ae hz) rfl)) (Tq rfl Mv (Tq rfl Mv ?_))));refine Tq rfl (Eo rfl rfl (j7 _ Aa)) ?_
     refine Tq rfl V7 (Tq rfl Pi (Tq rfl (Ay Ac rfl rfl rfl (fun wz hz=>lE (ll af hz) rfl)) (Tq rfl Pa ?_)));clear aq a9 ad aa ah ai aj ak al ae af an;refine AE rfl (C1 Pa (cN (C1 Mv ?_)));refine cC rfl (HU.out _ Af Af) ?_;rintro _ c0 ⟨⟨⟩,a4⟩;have c1:=a4.size;revert ag N f h1 L M F E X ra rb O;refine eE a4 ?_;intro ag N f h1 L M F E X ra rb O;clear a4;refine C1 Mv (C1 Px (C1 Px (C1 Pa (C1 Pa (cT (Al (cS (C1 Mv (C1 Pg (C1 (Pl ag) (C1 V9 ?_)))))))))));refine C1 Mv (Vv (Vv (C1 Y5 (cT (Em rfl (cS (C1 (DP [_,_,_,_,_,_,_,_,_,_,_,_] Ac Dj rfl rfl rfl rfl) ?_)))))));refine eS [_,_,_,_,_,_,_,_,_,_,_,_] h1 ?_;intro c2 ce bh c3;clear h1;revert ag N f L M F E X ra rb O;refine eF bh ?_;intro ag N f L M F E X ra rb O;clear bh;refine C1 Pa (C1 Pa (cT (BK (AI (AY (AI (AI (AY (AI (Dc rfl Ac rfl rfl rfl ce rfl rfl rfl ?_))))))))))
     exact ⟨rfl,X⟩
 obtain rfl:j=6:=by omega
 have e:SF ws = .tuple #[.agg (dG ws).cells0.toArray,.int .i64 (DA ws 5),.bool true]:=AH ⟨hl,h0,hnm,HQ.out⟩;rw [e]
 unfold EX.cells0 lJ at N
 refine cS (C1 V3 (cT (Al (dN (DN (AP (AP (Bt (Ag (Al ?_))))))))));refine AD (fun wz=>Fr (fun x=>x=b1) w3 wz) 3 (.pure 0 (.pure 1 (.fork 2 .tail .none))) mixed Bx (Ab Am) ?_;intro cm ba _;have am:(fun wz=>Fr (fun x=>x=b1) w3 wz) cm:=Fr.of_ext ba;simp only at am;have ah:=h1;have ai:=L;have aj:=M;have ak:=F;have al:=E;have ad:=N;have aa:=f;have ej:=ba.size;revert h1 L M F E X N f;refine eE ba ?_;intro h1 L M F E X N f;clear ba;refine ⟨am,?_⟩;refine Tq rfl (Co [_,_,_,_,_,_,_,_,_,_,_,_] Ac rfl rfl rfl (fun wz hz=>(Blk.fr ad hz (by first|omega|(dsimp only;omega)))) rfl rfl) ?_;refine Tq rfl (Ay Ac rfl rfl rfl (fun wz hz=>Blk.cell (Blk.fr aa hz (by first|omega|(dsimp only;omega))) rfl)) ?_;refine Ka [_,_,_,_,_,_,_,_,_,_,_,_] [_,_,_,_,_,_,_,_,_,_,_,_] rfl Ac rfl rfl rfl rfl rfl rfl h1 rfl rfl ?_ Bb;intro ek bb;have cf:=bb.blk;have cg:=bb.fr;have el:=bb.size;clear bb h1;revert am L M F E X N f;refine eF cg ?_;intro am L M F E X N f;clear cg;refine ⟨am,?_⟩;clear ah ai aj ak al ad aa am;refine AE rfl (C1 Pa (C1 Pa (cT (BK (Dc rfl Ac rfl rfl rfl cf rfl rfl rfl ?_)))))
 exact ⟨rfl,X⟩
abbrev CS:=List lB
inductive Nt where
 | ex (lv:Int):Nt
 | cl (lv:Int) (x:Nd):Nt
 | un:Nt
 | pl:Nt
def IE (lv:Int) (b:CS):Prop:= ∀t∈b.head?,∀op,Fd t=some op->Bv op<lv
def Mm (b:CS):Prop:= ∀t∈b.head?,t≠[91]
inductive G:Nt->CS->Nd->Prop where
 | ex {lv:Int} {a b:CS} {x y:Nd}:G .un a x->G (.cl lv x) b y->G (.ex lv) (a++b) y
 | cl0 {lv:Int} {x:Nd}:G (.cl lv x) [] x
 | cl1 {lv op:Int} {t:lB} {a b:CS} {x y z:Nd}:Fd t=some op->lv<=Bv op->G (.ex (Bv op+1)) a y->IE (Bv op+1) b->G (.cl lv (.mk op 0 [] [x,y])) b z->G (.cl lv x) (t::(a++b)) z
 | neg {a:CS} {x:Nd}:G .un a x->G .un ([45]::a) (.mk 6 0 [] [x])
 | not {a:CS} {x:Nd}:G .un a x->G .un ([33]::a) (.mk 7 0 [] [x])
 | num {t:lB}:BV t=true->(A8 t:Int)<=9223372036854775807->G .un [t] (.mk 1 (A8 t) [] [])
 | top {m:lB}:AU m=true->G .un [[116,111,112],[40],m,[41]] (.mk 4 0 m [])
 | size {m:lB}:AU m=true->G .un [[115,105,122,101],[40],m,[41]] (.mk 5 0 m [])
 | par {a:CS} {x:Nd}:G (.ex 1) a x->G .un ([40]::(a++[[41]])) x
 | place {a:CS} {x:Nd}:G .pl a x->G .un a x
 | var {m:lB}:AU m=true->G .pl [m] (.mk 2 0 m [])
 | item {m:lB} {a:CS} {x:Nd}:AU m=true->G (.ex 1) a x->G .pl (m::[91]::(a++[[93]])) (.mk 3 0 m [x])
section
variable {ts:List Tok} {n:Int}
def Q1 (ts:List Tok):CS:=ts.map Tok.text
def Df (σ:PS) (k:Nat):PS:=⟨σ.at_+k,σ.off,σ.err⟩
def Bf (σ:PS) (a b:Nat):Df (Df σ a) b=Df σ (a+b):=by simp [Df,Nat.add_assoc]
def BE (σ:PS):An σ=Df σ 1:=rfl
def rem (ts:List Tok) (σ:PS):CS:=(Q1 ts).drop σ.at_
def Jp (σ:PS):(rem ts σ).length=ts.length-σ.at_:=by simp [rem,Q1]
def Cv {σ:PS} {a b:CS} (h:rem ts σ=a++b):rem ts (Df σ a.length)=b:=by
 unfold rem Df at *;simp only;rw [<-List.drop_drop,h];simp
def AF {σ:PS} {t:lB} {b:CS} (h:rem ts σ=t::b):rem ts (Df σ 1)=b:=Cv (a:=[t]) h
def GD {σ:PS} {t:lB} {b:CS} (h:rem ts σ=t::b):σ.at_<ts.length:=by
 have:=Jp (ts:=ts) σ;rw [h] at this;simp at this;omega
def B8 {σ:PS} {t:lB} {b:CS} (h:rem ts σ=t::b) (E:σ.err=0):(Ap ts σ).text=t:=by
 have f:=GD h;unfold Ap;rw [At (by rintro (h|h);exact h E;omega)];unfold rem Q1 at h;rw [kv (by simpa using f)] at h;simp only [List.getElem_map,j9] at h;rw [List.getD_eq_getElem?_getD,jB f];exact h.1
def Yz {σ:PS} (f:σ.at_<=ts.length) (h:rem ts σ=[]):(Ap ts σ).text=[]:=by
 have:=Jp (ts:=ts) σ;rw [h] at this;rw [RM (by simp at this;omega)];rfl
def SG {σ:PS} (f:σ.at_<=ts.length) (E:σ.err=0):(Ap ts σ).text=((rem ts σ).head?).getD []:=by
 cases h:rem ts σ with
 | nil=>rw [Yz f h];rfl
 | cons t b=>rw [B8 h E];rfl
def A0 {σ:PS} {t u:lB} {b:CS} (h:rem ts σ=t::b) (f:σ.err=0):B1 ts σ u=decide (t=u):=by unfold B1;rw [B8 h f]
def GE {σ:PS} (f:σ.at_<ts.length) (E:σ.err=0):Ap ts σ∈ts:=by
 unfold Ap;rw [At (by rintro (h|h);exact h E;omega),List.getD_eq_getElem?_getD,jB f];exact jH f
def GF (E:A2 ts) {σ:PS} {t:lB} {b:CS} (h:rem ts σ=t::b) (f:σ.err=0):(Ap ts σ).kind=2↔BV t=true:=by
 rw [<-B8 h f];exact E _ (GE (GD h) f)
def A7 {σ:PS} {t:lB} {b:CS} (h:rem ts σ=t::b) (f:σ.err=0):Az ts n σ t=Df σ 1:=by unfold Az;rw [A0 h f];simp [BE]
def Cx {σ:PS} {t:lB} {b:CS} (h:rem ts σ=t::b) (f:σ.err=0) (E:AU t=true):A4 ts n σ=(t,Df σ 1):=by unfold A4;rw [B8 h f,AH E];rfl
def YA {σ:PS} (E:σ.at_<ts.length) (f:σ.err=0):rem ts σ=(Ap ts σ).text::rem ts (Df σ 1):=by
 cases h:rem ts σ with
 | nil=>have:=Jp (ts:=ts) σ;rw [h] at this;simp at this;omega
 | cons t b=>rw [B8 h f,AF h]
end
def YB {m:lB} (h:AU m=true):m≠[45]/\m≠[33]/\m≠[40]/\m≠[116,111,112]/\m≠[115,105,122,101]/\BV m=false:=by
 refine ⟨?_,?_,?_,?_,?_,?_⟩
 . rintro rfl;revert h;decide
 . rintro rfl;revert h;decide
 . rintro rfl;revert h;decide
 . rintro rfl;revert h;decide
 . rintro rfl;revert h;decide
 . cases m with
   | nil=>rfl
   | cons c r=>
    have F:(Aq (c::r)).1=1:=by
     simp only [AU,jA,beq_iff_eq] at h;exact h.1.1.2
    cases hd:BV (c::r)
    . rfl
    . exfalso;have f:B6 c=true:=by simpa [BV] using hd
      have E:CG c=false:=by
       cases E:CG c
       . rfl
       . simp only [CG,B6,jA,decide_eq_true_eq] at E f;omega
      simp [Aq,E,f] at F
def G.head {f:Nt} {a:CS} {x:Nd} (h:G f a x):match f with
 | .cl lv _=> ∀t r,a=t::r -> ∃op,Fd t=some op/\lv<=Bv op
 | _=>a≠[]:=by
 induction h with
 | ex _ _ E _=>simp only at *;intro h;exact E (List.append_eq_nil_iff.1 h).1
 | cl0=>intro t r h;cases h
 | cl1 h1 F=>intro t r h;simp only [j9] at h;obtain ⟨rfl,-⟩:=h;exact ⟨_,h1,F⟩
 | neg=>simp
 | not=>simp
 | num=>simp
 | top=>simp
 | size=>simp
 | par=>simp
 | place _ i=>exact i
 | var=>simp
 | item=>simp
section
variable {ts:List Tok} {n:Int}
def bA:Fd []=none:=by decide
def YC:Fd [91]=none:=by decide
def F8 {σ:PS} {u:lB} (f:σ.at_<=ts.length) (h:σ.err=0):B1 ts σ u=decide (((rem ts σ).head?).getD []=u):=by unfold B1;rw [SG f h]
def YD {σ:PS} (f:σ.at_<=ts.length) (E:σ.err=0) (h:Mm (rem ts σ)):B1 ts σ [91]=false:=by
 rw [F8 f E];cases hr:rem ts σ with
 | nil=>simp
 | cons t b=>have:=h t (by rw [hr];rfl);exact decide_eq_false this
def YE {σ:PS} {lv:Int} (F:σ.at_<=ts.length) (L:σ.err=0) (h:IE lv (rem ts σ)) : ∀op,Fd (Ap ts σ).text=some op->Bv op<lv:=by
 intro op f;rw [SG F L] at f;cases hr:rem ts σ with
 | nil=>rw [hr] at f;have E:Fd []=some op:=f;rw [bA] at E;cases E
 | cons t b=>rw [hr] at f;exact h t (by rw [hr];rfl) op (by simpa using f)
def bB (σ:PS) (k:Nat):(Df σ k).err=σ.err:=rfl
def fK {σ:PS} {a b:CS} (h:rem ts σ=a++b) (f:a≠[]):σ.at_+a.length<=ts.length:=by
 have:=Jp (ts:=ts) σ;rw [h] at this;cases a with
 | nil=>exact absurd rfl f
 | cons t r=>simp only [jy,jz] at this ⊢;omega
def GG {σ:PS} {a b:CS} (f:σ.at_<=ts.length) (h:rem ts σ=a++b):(Df σ a.length).at_<=ts.length:=by
 cases a with
 | nil=>exact f
 | cons t r=>exact fK h Bg
def G.pl_head {a:CS} {x:Nd} (h:G .pl a x) : ∃m r,a=m::r/\AU m=true:=by
 cases h with
 | var f=>exact ⟨_,_,rfl,f⟩
 | item f _=>exact ⟨_,_,rfl,f⟩
def gU (ts:List Tok) (n:Int):Nt->CS->Nd->Prop
 | .ex lv,a,x=> ∀(σ:PS) (k:Nat) (rest:CS),σ.at_<=ts.length->σ.err=0->rem ts σ=a++rest->IE lv rest->Mm rest->4*a.length+4<=k->Bu ts n k lv σ=(x,Df σ a.length)
 | .cl lv x0,a,x=> ∀(σ:PS) (k:Nat) (rest:CS),σ.at_<=ts.length->σ.err=0->rem ts σ=a++rest->IE lv rest->Mm rest->4*a.length+1<=k->BO ts n k lv x0 σ=(x,Df σ a.length)
 | .un,a,x=> ∀(σ:PS) (k:Nat) (rest:CS),σ.at_<=ts.length->σ.err=0->rem ts σ=a++rest->Mm rest->4*a.length+3<=k->Bc ts n k σ=(x,Df σ a.length)
 | .pl,a,x=> ∀(σ:PS) (k:Nat) (rest:CS),σ.at_<=ts.length->σ.err=0->rem ts σ=a++rest->Mm rest->4*a.length+1<=k->By ts n k σ=(x,Df σ a.length)
def G.cl_rest {lv:Int} {x y:Nd} {b rest:CS} (h:G (.cl lv x) b y) (F:IE lv rest) (L:Mm rest) (op:Int) (O:lv<=Bv op) (M:IE (Bv op+1) b):IE (Bv op+1) (b++rest)/\Mm (b++rest):=by
 cases b with
 | nil=>exact ⟨fun t N o f=>by have:=F t N o f;omega,L⟩
 | cons t r=>
  refine ⟨fun u E=>M u (by simpa using E),fun u E=>?_⟩;obtain ⟨o,f,-⟩:=h.head t r rfl;have:u=t:=by simpa using E.symm
  subst this;rintro rfl;rw [YC] at f;cases f
def G.cl_nobr {lv:Int} {x y:Nd} {b rest:CS} (h:G (.cl lv x) b y) (E:Mm rest):Mm (b++rest):=by
 cases b with
 | nil=>exact E
 | cons t r=>
  intro u F;obtain ⟨o,f,-⟩:=h.head t r rfl;have:u=t:=by simpa using F.symm
  subst this;rintro rfl;rw [YC] at f;cases f
def GH {lv:Int} {t:lB} {r:CS} (h:Fd t=none):IE lv (t::r):=fun u E op f=>by
 have:u=t:=by simpa using E.symm
 subst this;rw [h] at f;cases f
def DZ {t:lB} {r:CS} (h:t≠[91]):Mm (t::r):=fun u f=>by
 have:u=t:=by simpa using f.symm
 subst this;exact h
def G.reads (hd:A2 ts) {nt:Nt} {a:CS} {x:Nd} (h:G nt a x):gU ts n nt a x:=by
 induction h with
 | @ex lv a b x y h1 Z Y i2=>
  intro σ k rest V E M hs U O;obtain ⟨k,rfl⟩ : ∃j,k=j+1:=⟨k-1,Aa⟩;simp only [jy] at O ⊢;rw [jS] at M;rw [Bu,Y σ k _ V E M (Z.cl_nobr U) Aa];simp only;rw [i2 (Df σ a.length) k rest (GG V M) E (Cv M) hs U Aa,Bf]
 | @cl0 lv x=>
  intro σ k rest V E M hs U O;obtain ⟨k,rfl⟩ : ∃j,k=j+1:=⟨k-1,Aa⟩;rw [km] at M;have hb:=YE V E (M.symm▸hs);rw [BO];split
  . rfl
  . rename_i op ho;rw [AH (hb op ho)];rfl
 | @cl1 lv op t a b x y z h1 Z h3 h4 h5 i3 i5=>
  intro σ k rest V E M hs U O;obtain ⟨k,rfl⟩ : ∃j,k=j+1:=⟨k-1,Aa⟩;simp only [jz,jy] at O ⊢;have F:rem ts σ=t::(a++(b++rest)):=by rw [M];simp
  obtain ⟨s1,s2⟩:=h5.cl_rest hs U op Z h4;have hl:=GD F;rw [BO,B8 F E,h1];simp only;rw [At Aa,BE,i3 (Df σ 1) k (b++rest) hl E (AF F) s1 s2 Aa];simp only;have L:=AF F;rw [i5 (Df (Df σ 1) a.length) k rest (GG hl L) E (Cv L) hs U Aa,Bf,Bf];exact Prod.ext rfl (congrArg (Df σ) Aa)
 | @neg a x h1 Y=>
  intro σ k rest V E M U O;obtain ⟨k,rfl⟩ : ∃j,k=j+1:=⟨k-1,Aa⟩;simp only [jz] at O ⊢;have F:rem ts σ=[45]::(a++rest):=M;rw [Bc,A0 F E,AH Ao,BE,Y (Df σ 1) k rest (GD F) E (AF F) U Aa,Bf,Nat.add_comm 1]
 | @not a x h1 Y=>
  intro σ k rest V E M U O;obtain ⟨k,rfl⟩ : ∃j,k=j+1:=⟨k-1,Aa⟩;simp only [jz] at O ⊢;have F:rem ts σ=[33]::(a++rest):=M;rw [Bc,A0 F E,At Ao,A0 F E,AH Ao,BE,Y (Df σ 1) k rest (GD F) E (AF F) U Aa,Bf,Nat.add_comm 1]
 | @num t h1 Z=>
  intro σ k rest V E M U O;obtain ⟨k,rfl⟩ : ∃j,k=j+2:=⟨k-2,by simp at O;omega⟩;have F:rem ts σ=t::rest:=M;have aa:t≠[45]/\t≠[33]:=⟨by rintro rfl;revert h1;decide,by rintro rfl;revert h1;decide⟩;rw [Bc,A0 F E,At (by simpa using aa.1),A0 F E,At (by simpa using aa.2),Bh,AH ((GF hd F E).2 h1)];have ab:BN ts n 0 9223372036854775807 σ=((A8 t:Int),Df σ 1):=by
   unfold BN;rw [AH ((GF hd F E).2 h1),B8 F E,AH ⟨Z,Aa,Z⟩];rfl
  rw [ab];rfl
 | @top m h1=>
  intro σ k rest V E M U O;obtain ⟨k,rfl⟩ : ∃j,k=j+2:=⟨k-2,by simp at O;omega⟩;have f:rem ts σ=[116,111,112]::([40]::m::[41]::rest):=M;have L:=AF f;have N:=AF L;have X:=AF N;rw [Bc,A0 f E,At Ao,A0 f E,At Ao,Bh,At (fun e=>by have:=(GF hd f E).1 e;revert this;decide),A0 f E,AH Ao,BE,A7 L E,Cx N E h1];simp only;rw [A7 X E];rfl
 | @size m h1=>
  intro σ k rest V E M U O;obtain ⟨k,rfl⟩ : ∃j,k=j+2:=⟨k-2,by simp at O;omega⟩;have f:rem ts σ=[115,105,122,101]::([40]::m::[41]::rest):=M;have L:=AF f;have N:=AF L;have X:=AF N;rw [Bc,A0 f E,At Ao,A0 f E,At Ao,Bh,At (fun e=>by have:=(GF hd f E).1 e;revert this;decide),A0 f E,At Ao,A0 f E,AH Ao,BE,A7 L E,Cx N E h1];simp only;rw [A7 X E];rfl
 | @par a x h1 Y=>
  intro σ k rest V E M U O;simp only [jz,jy,jD] at O ⊢;obtain ⟨k,rfl⟩ : ∃j,k=j+2:=⟨k-2,Aa⟩
  have f:rem ts σ=[40]::(a++([41]::rest)):=by rw [M];simp
  have L:=AF f;have N:=Cv L;rw [Bc,A0 f E,At Ao,A0 f E,At Ao,Bh,At (fun e=>by have:=(GF hd f E).1 e;revert this;decide),A0 f E,At Ao,A0 f E,At Ao,A0 f E,AH Ao,BE,
   Y (Df σ 1) k _ (GD f) E L (GH Ao) (DZ Ao) Aa]
  simp only;rw [A7 N E,Bf,Bf];exact Prod.ext rfl (congrArg (Df σ) Aa)
 | @place a x h1 Y=>
  intro σ k rest V E M U O;obtain ⟨k,rfl⟩ : ∃j,k=j+2:=⟨k-2,Aa⟩;obtain ⟨m,r,rfl,hm⟩:=h1.pl_head;have f:rem ts σ=m::(r++rest):=M;obtain ⟨n1,n2,n3,n4,n5,n6⟩:=YB hm;rw [Bc,A0 f E,At (by simpa using n1),A0 f E,At (by simpa using n2),Bh,At (fun e=>by have:=(GF hd f E).1 e;rw [n6] at this;cases this),A0 f E,At (by simpa using n4),A0 f E,At (by simpa using n5),A0 f E,At (by simpa using n3)];exact Y σ k rest V E M U Aa
 | @var m h1=>
  intro σ k rest V E M U O;obtain ⟨k,rfl⟩ : ∃j,k=j+1:=⟨k-1,Aa⟩;have f:rem ts σ=m::rest:=M;rw [By,Cx f E h1];simp only;rw [YD (σ:=Df σ 1) (GD f) E ((AF f).symm▸U),At Ao];rfl
 | @item m a x h1 Z i2=>
  intro σ k rest V E M U O;simp only [jz,jy,jD] at O ⊢;obtain ⟨k,rfl⟩ : ∃j,k=j+1:=⟨k-1,Aa⟩
  have f:rem ts σ=m::([91]::(a++([93]::rest))):=by rw [M];simp
  have L:=AF f;have N:=AF L;have X:=Cv N;rw [By,Cx f E h1];simp only;rw [A0 L E,AH Ao,BE,i2 (Df (Df σ 1) 1) k _ (GD L) E N (GH Ao) (DZ Ao) Aa];simp only;rw [A7 X E,Bf,Bf,Bf];exact Prod.ext rfl (congrArg (Df σ) Aa)
end
section
variable {ts:List Tok} {n:Int}
def U3 {σ:PS} {lv:Int} (L:σ.at_<=ts.length) (E:σ.err=0) (h : ∀op,Fd (Ap ts σ).text=some op->Bv op<lv):IE lv (rem ts σ):=by
 intro t f op F;cases hr:rem ts σ with
 | nil=>rw [hr] at f;cases f
 | cons u b=>
  rw [hr] at f;have:t=u:=by simpa using f.symm
  subst this;exact h op (by rw [B8 hr E];exact F)
def Seg (ts:List Tok) (σ σ':PS) (a:CS):Prop:=rem ts σ=a++rem ts σ'
def Seg.refl (σ:PS):Seg ts σ σ []:=rfl
def Seg.trans {σ f E:PS} {a b:CS} (h:Seg ts σ f a) (k:Seg ts f E b):Seg ts σ E (a++b):=by unfold Seg at *;rw [h,k,jS]
def EJ {σ:PS} (h:In ts σ):Seg ts σ (An σ) [(Ap ts σ).text]:=YA h.2 h.1
def EQ {σ:PS} {t:lB} (f:σ.at_<=ts.length) (h:B1 ts σ t=true) (E:t≠[]):Seg ts σ (An σ) [t]:=by
 have:=EJ (AO f h E);have e:(Ap ts σ).text=t:=of_decide_eq_true h;rwa [e] at this
def B5 {σ:PS} {t:lB} (E:σ.at_<=ts.length) (F:t≠[]) (f:(Az ts n σ t).err=0):Seg ts σ (Az ts n σ t) [t]:=by
 unfold Az at *;split at f
 . rename_i h;rw [AH h];exact EQ E h F
 . exact absurd f E0
def Dg {σ:PS} (E:σ.at_<=ts.length) (h:(A4 ts n σ).2.err=0):Seg ts σ (A4 ts n σ).2 [(A4 ts n σ).1]/\AU (A4 ts n σ).1=true:=by
 unfold A4 at *;split at h
 . rename_i f;rw [AH f];exact ⟨EJ (Cf E (jF (Fx f))),f⟩
 . exact absurd h E0
def NP (N:A2 ts) {f h:Int} {σ:PS} (O:σ.at_<=ts.length) (F:(BN ts n f h σ).2.err=0) :
 ∃t,Seg ts σ (BN ts n f h σ).2 [t]/\BV t=true/\(BN ts n f h σ).1=(A8 t:Int)/\(A8 t:Int)<=9223372036854775807/\f<=(A8 t:Int)/\(A8 t:Int)<=h:=by
 unfold BN at *;split at F
 . rename_i M;rw [AH M];have E:=Cf O (jG (by rw [M];decide));split at F
   . rename_i L;rw [AH L];exact ⟨_,EJ E,(N _ (GE E.2 E.1)).1 M,rfl,L.1,L.2.1,L.2.2⟩
   . exact absurd F (Ef Ao)
 . exact absurd F E0
def NQ (hd:A2 ts) (k:Nat) :
 (∀lv σ,σ.at_<=ts.length->4*mS ts σ+4<=k->(Bu ts n k lv σ).2.err=0 -> ∃a,Seg ts σ (Bu ts n k lv σ).2 a/\G (.ex lv) a (Bu ts n k lv σ).1/\IE lv (rem ts (Bu ts n k lv σ).2)) /\
 (∀lv x σ,σ.at_<=ts.length->4*mS ts σ+1<=k->(BO ts n k lv x σ).2.err=0 -> ∃a,Seg ts σ (BO ts n k lv x σ).2 a/\G (.cl lv x) a (BO ts n k lv x σ).1/\IE lv (rem ts (BO ts n k lv x σ).2)) /\
 (∀ σ,σ.at_<=ts.length->4*mS ts σ+3<=k->(Bc ts n k σ).2.err=0 -> ∃a,Seg ts σ (Bc ts n k σ).2 a/\G .un a (Bc ts n k σ).1) /\
 (∀ σ,σ.at_<=ts.length->4*mS ts σ+2<=k->(Bh ts n k σ).2.err=0 -> ∃a,Seg ts σ (Bh ts n k σ).2 a/\G .un a (Bh ts n k σ).1) /\
 (∀ σ,σ.at_<=ts.length->4*mS ts σ+1<=k->(By ts n k σ).2.err=0 -> ∃a,Seg ts σ (By ts n k σ).2 a/\G .pl a (By ts n k σ).1):=by
 induction k with
 | zero=>refine ⟨fun _ _ _ h=>?_,fun _ _ _ _ h=>?_,fun _ _ h=>?_,fun _ _ h=>?_,fun _ _ h=>?_⟩<;>omega
 | succ k ih=>
  obtain ⟨iE,iC,iU,iP,iL⟩:=ih;obtain ⟨vE,vC,vU,vP,vL⟩:=Fj (ts:=ts) (n:=n) k;refine ⟨fun lv σ h Z E=>?_,fun lv x σ h Z E=>?_,fun σ h Z E=>?_,fun σ h Z E=>?_,fun σ h Z E=>?_⟩
  . rw [Bu] at E ⊢;have hu:=vU σ h;have hc:=vC lv (Bc ts n k σ).1 (Bc ts n k σ).2 hu.1.wf;have U:=UR hu.1 (hu.2 Aa);have aa:=hc.ok E;obtain ⟨a,N,O⟩:=iU σ h Aa aa;obtain ⟨b,sb,gb,X⟩:=iC lv _ _ hu.1.wf Aa E;exact ⟨a++b,N.trans sb,G.ex O gb,X⟩
  . cases ho:Fd (Ap ts σ).text with
    | none=>
     have e:BO ts n (k+1) lv x σ=(x,σ):=by rw [BO];simp only [ho]
     rw [e] at E ⊢;exact ⟨[],Seg.refl _,G.cl0,U3 h E (fun op e=>by rw [ho] at e;cases e)⟩
    | some op=>
     obtain ⟨ab,ae⟩:=Gt ho;have F:=Cf h (jF ab);have U:=Ck F;have hp:=TF F;by_cases hl:Bv op<lv
     . have e:BO ts n (k+1) lv x σ=(x,σ):=by rw [BO];simp only [ho];rw [AH hl]
       rw [e] at E ⊢;exact ⟨[],Seg.refl _,G.cl0,U3 h F.1 (fun o e=>by rw [ho] at e;cases e;exact hl)⟩
     . have e:BO ts n (k+1) lv x σ=BO ts n k lv (.mk op 0 [] [x,(Bu ts n k (Bv op+1) (An σ)).1]) (Bu ts n k (Bv op+1) (An σ)).2:=by rw [BO];simp only [ho];rw [At hl]
       rw [e] at E ⊢;have h1:=AA F;have L:=vE (Bv op+1) (An σ) h1.wf;have M:=vC lv (.mk op 0 [] [x,(Bu ts n k (Bv op+1) (An σ)).1]) _ L.1.wf;have af:=BJ L.1;obtain ⟨a,N,O,ac⟩:=iE (Bv op+1) (An σ) h1.wf Aa (M.ok E);obtain ⟨b,sb,gb,X⟩:=iC lv _ _ L.1.wf Aa E;refine ⟨(Ap ts σ).text::(a++b),(EJ F).trans (N.trans sb),G.cl1 ho Aa O ?_ gb,X⟩;intro t ht;refine ac t ?_;have ad:rem ts (Bu ts n k (Bv op+1) (An σ)).2=b++_:=sb;rw [ad];cases b with
       | nil=>cases ht
       | cons u r=>simpa using ht
  . rw [Bc] at E ⊢;split at E
    . rename_i f;rw [AH f];have F:=AO h f Ao;have U:=Ck F;obtain ⟨a,N,O⟩:=iU (An σ) (AA F).wf Aa E;exact ⟨_,(EQ h f Ao).trans N,G.neg O⟩
    . rename_i f;rw [At f];split at E
      . rename_i f;rw [AH f];have F:=AO h f Ao;have U:=Ck F;obtain ⟨a,N,O⟩:=iU (An σ) (AA F).wf Aa E;exact ⟨_,(EQ h f Ao).trans N,G.not O⟩
      . rename_i f;rw [At f];exact iP σ h Aa E
  . rw [Bh] at E ⊢;split at E
    . rename_i f;rw [AH f];obtain ⟨t,X,h1,L,M,-⟩:=NP hd h E;refine ⟨[t],X,?_⟩;simp only [L];exact G.num h1 M
    . rename_i f;rw [At f];split at E
      . rename_i f;rw [AH f];have F:=AO h f Ao;have h1:=AA F;have L:=Ar (n:=n) (t:=[40]) h1.wf Ao;have M:=AN (n:=n) L.wf;have h4:=Ar (n:=n) (t:=[41]) M.wf Ao;have Y:=h4.ok E;obtain ⟨s3,U⟩:=Dg L.wf Y;exact ⟨_,(((EQ h f Ao).trans (B5 h1.wf Ao (M.ok Y))).trans s3).trans (B5 M.wf Ao E),G.top U⟩
      . rename_i f;rw [At f];split at E
        . rename_i f;rw [AH f];have F:=AO h f Ao;have h1:=AA F;have L:=Ar (n:=n) (t:=[40]) h1.wf Ao;have M:=AN (n:=n) L.wf;have h4:=Ar (n:=n) (t:=[41]) M.wf Ao;have Y:=h4.ok E;obtain ⟨s3,U⟩:=Dg L.wf Y;exact ⟨_,(((EQ h f Ao).trans (B5 h1.wf Ao (M.ok Y))).trans s3).trans (B5 M.wf Ao E),G.size U⟩
        . rename_i f;rw [At f];split at E
          . rename_i f;rw [AH f];have F:=AO h f Ao;have U:=Ck F;have h1:=AA F;have L:=(vE 1 (An σ) h1.wf).1;have M:=Ar (n:=n) (t:=[41]) L.wf Ao;obtain ⟨a,N,O,-⟩:=iE 1 (An σ) h1.wf Aa (M.ok E);exact ⟨_,(EQ h f Ao).trans (N.trans (B5 L.wf Ao E)),G.par O⟩
          . rename_i f;rw [At f];obtain ⟨a,N,O⟩:=iL σ h Aa E;exact ⟨a,N,G.place O⟩
  . rw [By] at E ⊢;have h0:=AN (n:=n) h;split at E
    . rename_i f;rw [AH f];have F:=AO h0.wf f Ao;have U:=Ck F;have ag:=BJ h0;have h1:=AA F;have L:=(vE 1 _ h1.wf).1;have M:=Ar (n:=n) (t:=[93]) L.wf Ao;obtain ⟨s0,V⟩:=Dg h F.1;obtain ⟨a,N,O,-⟩:=iE 1 _ h1.wf Aa (M.ok E);exact ⟨_,s0.trans ((EQ h0.wf f Ao).trans (N.trans (B5 L.wf Ao E))),G.item V O⟩
    . rename_i f;rw [At f];obtain ⟨s0,V⟩:=Dg h E;exact ⟨_,s0,G.var V⟩
end
def G.valid {f:Nt} {a:CS} {x:Nd} (h:G f a x):match f with
 | .cl _ y=>y.isExpr=true->x.isExpr=true
 | .pl=>x.isPlace=true
 | _=>x.isExpr=true:=by
 induction h with
 | ex _ _ F i2=>exact i2 F
 | cl0=>exact fun h=>h
 | @cl1 lv op t a b x y z h1 M N O U i3 i5=>
  intro E;refine i5 ?_;obtain ⟨-,V,L,-⟩:=Gt h1;unfold lD;rw [At Aa,At Aa,At Aa,At Aa,AH Aa];simp only at i3 E;simp [plain,E,i3]
 | neg _ i=>unfold lD;simp only at i;simp [plain,i]
 | not _ i=>unfold lD;simp only at i;simp [plain,i]
 | num=>unfold lD;simp
 | top h=>unfold lD;simp [named,h]
 | size h=>unfold lD;simp [named,h]
 | par _ i=>exact i
 | place _ i=>simp only [lH,jA] at i;exact i.2
 | var h=>simp [lH,lD,kZ,named,h]
 | item h _ i=>simp only at i;simp [lH,lD,kZ,named,h,i]
inductive NtS where
 | st:NtS
 | bl:NtS
 | ls:NtS
def Jt (m:lB):Nd:=.mk 2 0 m []
def Ov (l:CS):CS:=l.flatMap fun m=>[[44],m]
def Iv:List (lB×Int):=[([112,117,115,104],44),([112,111,112],45)]
def Ja:List (lB×Int):=[([114,101,97,100],46),([117,110,114,101,97,100],47),([119,114,105,116,101],48),([117,110,119,114,105,116,101],49)]
def FC:List (lB×Int):=[([99,97,108,108],50),([117,110,99,97,108,108],51)]
def EK:List (lB×Int×lB×lB):=[([105,102],52,[101,108,115,101],[102,105]),([102,114,111,109],53,[108,111,111,112],[117,110,116,105,108])]
inductive GS:NtS->CS->List Nd->Prop where
 | stack {kw m:lB} {kd:Int} {a:CS} {x:Nd}:(kw,kd)∈Iv->G .pl a x->AU m=true->GS .st (kw::(a++[[44],m])) [.mk kd 0 m [x]]
 | tape {kw:lB} {kd:Int} {a:CS} {x:Nd}:(kw,kd)∈Ja->G .pl a x->GS .st (kw::a) [.mk kd 0 [] [x]]
 | call0 {kw m:lB} {kd:Int}:(kw,kd)∈FC->AU m=true->GS .st [kw,m,[40],[41]] [.mk kd 0 m []]
 | call1 {kw m u:lB} {kd:Int} {l:CS}:(kw,kd)∈FC->AU m=true->AU u=true->(∀v∈l,AU v=true)->l.length<=7->GS .st (kw::m::[40]::u::(Ov l++[[41]])) [.mk kd 0 m ((u::l).map Jt)]
 | branch {kw mid last:lB} {kd:Int} {a b c d:CS} {x y z u:Nd}:(kw,kd,mid,last)∈EK->G (.ex 1) a x->GS .bl b [y]->GS .bl c [z]->G (.ex 1) d u->GS .st (kw::(a++(b++(mid::(c++(last::d)))))) [.mk kd 0 [] [x,y,z,u]]
 | lstack {m:lB} {b:CS} {x:Nd}:AU m=true->GS .bl b [x]->GS .st ([108,111,99,97,108]::[115,116,97,99,107]::m::b) [.mk 55 0 m [x]]
 | local_ {m:lB} {a b d:CS} {x y z:Nd}:AU m=true->G (.ex 1) a x->GS .bl b [y]->G (.ex 1) d z->GS .st ([108,111,99,97,108]::m::[61]::(a++(b++([100,101,108,111,99,97,108]::d)))) [.mk 54 0 m [x,y,z]]
 | upd {t:lB} {a b:CS} {x y:Nd}:G .pl a x->CC t≠0->G (.ex 1) b y->GS .st (a++t::b) [.mk (CC t) 0 [] [x,y]]
 | swap {a b:CS} {x y:Nd}:G .pl a x->G .pl b y->GS .st (a++[60,61,62]::b) [.mk 43 0 [] [x,y]]
 | bl {a:CS} {l:List Nd}:GS .ls a l->GS .bl ([123]::(a++[[125]])) [.mk 57 0 [] l]
 | ls0:GS .ls [] []
 | ls1 {a b:CS} {x:Nd} {l:List Nd}:GS .st a [x]->GS .ls b l->GS .ls (a++[59]::b) (x::l)
def ER {m:lB} (h:AU m=true) {t:lB} (f:F4 t=true):m≠t:=by
 rintro rfl;simp only [AU,jA,Bool.not_eq_true'] at h;rw [f] at h;cases h.2
def Lq {m:lB} (h:AU m=true) {t:lB} (f:AU t=false):m≠t:=by
 rintro rfl;rw [h] at f;cases f
section
variable {ts:List Tok} {n:Int}
def WD (k:Nat) : ∀(l E:CS) (acc:List Nd) (σ:PS) (rest:CS),σ.at_<=ts.length->σ.err=0->rem ts σ=Ov l++rest->(∀t∈rest.head?,t≠[44])->(∀v∈l,AU v=true)->acc.length+l.length<=8->l.length+1<=k ->
 CK ts n k acc σ=(acc++l.map Jt,Df σ (2*l.length)):=by
 induction k with
 | zero=>intro l _ acc σ rest _ _ _ _ _ _ h;omega
 | succ k X=>
  intro l E acc σ rest Y L N O U V Z;rw [CK];cases l with
  | nil=>
   have hh:B1 ts σ [44]=false:=by
    rw [F8 Y L,N];cases rest with
    | nil=>rfl
    | cons t r=>exact decide_eq_false (O t rfl)
   rw [At (by rw [hh];decide)];simp [Df]
  | cons m l=>
   have F:rem ts σ=[44]::(m::(Ov l++rest)):=by rw [N];simp [Ov]
   have f:=AF F;have hm:=U m Bg;rw [AH (by rw [A0 F L];decide),At (by simp only [jz] at V;omega)];unfold DL;rw [BE,Cx f L hm];simp only;simp only [jz] at V Z;have M:=GD f;rw [X l [] _ (Df (Df σ 1) 1) rest M L (AF f) O (fun v hv=>U v (by simp [hv])) (by simp only [jy,jz,jD];omega) Aa,Bf,Bf];refine Prod.ext ?_ (congrArg (Df σ) (by simp only [jz];omega));simp [Jt]
def GS.st_head {a:CS} {l:List Nd} (h:GS .st a l) : ∃t r,a=t::r/\t≠[125]/\t≠[]:=by
 cases h with
 | stack h=>refine ⟨_,_,rfl,?_⟩;simp only [Iv,jR,kf,jU,or_false] at h;rcases h with ⟨rfl,-⟩|⟨rfl,-⟩<;>decide
 | tape h=>refine ⟨_,_,rfl,?_⟩;simp only [Ja,jR,kf,jU,or_false] at h;rcases h with ⟨rfl,-⟩|⟨rfl,-⟩|⟨rfl,-⟩|⟨rfl,-⟩<;>decide
 | call0 h=>refine ⟨_,_,rfl,?_⟩;simp only [FC,jR,kf,jU,or_false] at h;rcases h with ⟨rfl,-⟩|⟨rfl,-⟩<;>decide
 | call1 h=>refine ⟨_,_,rfl,?_⟩;simp only [FC,jR,kf,jU,or_false] at h;rcases h with ⟨rfl,-⟩|⟨rfl,-⟩<;>decide
 | branch h=>refine ⟨_,_,rfl,?_⟩;simp only [EK,jR,kf,jU,or_false] at h;rcases h with ⟨rfl,-⟩|⟨rfl,-⟩<;>decide
 | lstack=>exact ⟨_,_,rfl,Ao⟩
 | local_=>exact ⟨_,_,rfl,Ao⟩
 | upd h=>obtain ⟨m,r,rfl,f⟩:=h.pl_head;exact ⟨m,_,rfl,Lq f Ao,Fx f⟩
 | swap h=>obtain ⟨m,r,rfl,f⟩:=h.pl_head;exact ⟨m,_,rfl,Lq f Ao,Fx f⟩
def GS.bl_head {a:CS} {l:List Nd} (h:GS .bl a l) : ∃r,a=[123]::r:=by
 cases h with
 | bl _=>exact ⟨_,rfl⟩
def fL (ts:List Tok) (n:Int):NtS->CS->List Nd->Prop
 | .st,a,l=> ∀(σ:PS) (k:Nat) (rest:CS),σ.at_<=ts.length->σ.err=0->rem ts σ=a++([59]::rest)->4*a.length+6<=k->([(Bo ts n k σ).1],(Bo ts n k σ).2)=(l,Df σ a.length)
 | .bl,a,l=> ∀(σ:PS) (k:Nat) (rest:CS),σ.at_<=ts.length->σ.err=0->rem ts σ=a++rest->4*a.length+4<=k->([(Cp ts n k σ).1],(Cp ts n k σ).2)=(l,Df σ a.length)
 | .ls,a,l=>(∀(σ:PS) (k:Nat) (acc:List Nd) (rest:CS),σ.at_<=ts.length->σ.err=0->rem ts σ=a++([125]::rest)->4*a.length+7<=k->CA ts n k acc σ=(acc++l,Df σ (a.length+1))) /\
  (∀(σ:PS) (k:Nat) (acc:List Nd),σ.at_<=ts.length->σ.err=0->rem ts σ=a->4*a.length+7<=k->Qb ts n k acc σ=(acc++l,Df σ a.length))
def EL {x:Nd} {σ σ':PS} {p:Nd×PS} (h:p=(x,σ')):([p.1],p.2)=([x],σ'):=by rw [h]
def GI {x:Nd} {σ':PS} {p:Nd×PS} (h:([p.1],p.2)=([x],σ')):p=(x,σ'):=by
 simp only [kf,j9,and_true] at h;exact Prod.ext h.1 h.2
def G.reads_ex (f:A2 ts) {lv:Int} {a:CS} {x:Nd} (h:G (.ex lv) a x) {σ:PS} {k:Nat} {rest:CS} (E:σ.at_<=ts.length) (F:σ.err=0) (L:rem ts σ=a++rest) (M:IE lv rest) (N:Mm rest) (O:4*a.length+4<=k):Bu ts n k lv σ=(x,Df σ a.length):=h.reads f σ k rest E F L M N O
def G.reads_pl (f:A2 ts) {a:CS} {x:Nd} (h:G .pl a x) {σ:PS} {k:Nat} {rest:CS} (E:σ.at_<=ts.length) (F:σ.err=0) (L:rem ts σ=a++rest) (M:Mm rest) (N:4*a.length+1<=k):By ts n k σ=(x,Df σ a.length):=h.reads f σ k rest E F L M N
def bC {t:lB} (h:CC t≠0):t≠[91]/\t≠[60,61,62]/\Fd t=none:=by
 unfold CC at h;by_cases h1:t=[43,61]
 . subst h1;decide
 by_cases f:t=[45,61]
 . subst f;decide
 by_cases E:t=[94,61]
 . subst E;decide
 by_cases F:t=[58,61]
 . subst F;decide
 simp [h1,f,E,F] at h
def SH {σ:PS} {m:lB} {b:CS} (h:rem ts σ=m::b) (E:σ.err=0) (f:AU m=true) (k:Nat):Bo ts n (k+1) σ=Di ts n k σ:=by
 rw [Bo,B8 h E,At (ER f Ao),At (ER f Ao),At (ER f Ao),At (ER f Ao),At (ER f Ao),At (ER f Ao),At (ER f Ao),At (ER f Ao),At (ER f Ao),At (ER f Ao),At (ER f Ao)]
end
section
variable {ts:List Tok} {n:Int}
def C5 {σ:PS} {t:lB} {b:CS} (h:rem ts σ=t::b):(Df σ 1).at_<=ts.length:=GD h
def YF (l:CS):(Ov l).length=2*l.length:=by
 induction l with
 | nil=>rfl
 | cons x r f=>
  have e:Ov (x::r)=[44]::x::Ov r:=rfl;rw [e];simp only [jz,f];omega
def NR {σ:PS} {kw:lB} {kd:Int} (h:(kw,kd)∈Iv) (f:(Ap ts σ).text=kw) (k:Nat):Bo ts n (k+1) σ=Fu ts n k kd σ:=by
 simp only [Iv,jR,kf,jU,or_false] at h;rcases h with ⟨rfl,rfl⟩|⟨rfl,rfl⟩
 . rw [Bo,f,AH rfl]
 . rw [Bo,f,At Ao,AH rfl]
def Ps {σ:PS} {kw:lB} {kd:Int} (h:(kw,kd)∈Ja) (f:(Ap ts σ).text=kw) (k:Nat):Bo ts n (k+1) σ=Gl ts n k kd σ:=by
 simp only [Ja,jR,kf,jU,or_false] at h;rcases h with ⟨rfl,rfl⟩|⟨rfl,rfl⟩|⟨rfl,rfl⟩|⟨rfl,rfl⟩
 . rw [Bo,f,At Ao,At Ao,AH rfl]
 . rw [Bo,f,At Ao,At Ao,At Ao,AH rfl]
 . rw [Bo,f,At Ao,At Ao,At Ao,At Ao,AH rfl]
 . rw [Bo,f,At Ao,At Ao,At Ao,At Ao,At Ao,AH rfl]
def Lr {σ:PS} {kw:lB} {kd:Int} (h:(kw,kd)∈FC) (f:(Ap ts σ).text=kw) (k:Nat):Bo ts n (k+1) σ=Fp ts n k kd σ:=by
 simp only [FC,jR,kf,jU,or_false] at h;rcases h with ⟨rfl,rfl⟩|⟨rfl,rfl⟩
 . rw [Bo,f,At Ao,At Ao,At Ao,At Ao,At Ao,At Ao,AH rfl]
 . rw [Bo,f,At Ao,At Ao,At Ao,At Ao,At Ao,At Ao,At Ao,AH rfl]
def L8 {σ:PS} {kw E f:lB} {kd:Int} (h:(kw,kd,E,f)∈EK) (F:(Ap ts σ).text=kw) (k:Nat):Bo ts n (k+1) σ=BI ts n k kd E f σ:=by
 simp only [EK,jR,kf,jU,or_false] at h;rcases h with ⟨rfl,rfl,rfl,rfl⟩|⟨rfl,rfl,rfl,rfl⟩
 . rw [Bo,F,At Ao,At Ao,At Ao,At Ao,At Ao,At Ao,At Ao,At Ao,AH rfl]
 . rw [Bo,F,At Ao,At Ao,At Ao,At Ao,At Ao,At Ao,At Ao,At Ao,At Ao,AH rfl]
def JU {σ:PS} (f:(Ap ts σ).text=[108,111,99,97,108]) (k:Nat):Bo ts n (k+1) σ=Dy ts n k σ:=by
 rw [Bo,f,At Ao,At Ao,At Ao,At Ao,At Ao,At Ao,At Ao,At Ao,At Ao,At Ao,AH rfl]
def WE {kw E f:lB} {kd:Int} (h:(kw,kd,E,f)∈EK):E≠[]/\f≠[]:=by
 simp only [EK,jR,kf,jU,or_false] at h;rcases h with ⟨rfl,rfl,rfl,rfl⟩|⟨rfl,rfl,rfl,rfl⟩<;>decide
def GS.reads (hd:A2 ts) {nt:NtS} {a:CS} {l:List Nd} (h:GS nt a l):fL ts n nt a l:=by
 induction h with
 | @stack kw m kd a x h1 V h3=>
  intro σ k rest X F N O;simp only [jz,jy,jD] at O ⊢;obtain ⟨k,rfl⟩ : ∃j,k=j+1:=⟨k-1,Aa⟩
  have f:rem ts σ=kw::(a++([44]::m::([59]::rest))):=by rw [N];simp
  have E:=AF f;have L:=Cv E;have M:=AF L;refine EL (σ:=σ) ?_;rw [NR h1 (B8 f F)];unfold Fu;simp only;rw [BE,V.reads_pl hd (C5 f) F E (DZ Ao) Aa];simp only;rw [A7 L F,Cx M F h3];simp only [Bf];exact Prod.ext rfl (congrArg (Df σ) Aa)
 | @tape kw kd a x h1 V=>
  intro σ k rest X F N O;simp only [jz] at O ⊢;obtain ⟨k,rfl⟩ : ∃j,k=j+1:=⟨k-1,Aa⟩;have f:rem ts σ=kw::(a++([59]::rest)):=N;have E:=AF f;refine EL (σ:=σ) ?_;rw [Ps h1 (B8 f F)];unfold Gl;rw [BE,V.reads_pl hd (C5 f) F E (DZ Ao) Aa];simp only [Bf];exact Prod.ext rfl (congrArg (Df σ) Aa)
 | @call0 kw m kd h1 V=>
  intro σ k rest X F N O;simp only [jz,jD] at O ⊢;obtain ⟨k,rfl⟩ : ∃j,k=j+1:=⟨k-1,Aa⟩;have f:rem ts σ=kw::(m::([40]::([41]::([59]::rest)))):=N;have E:=AF f;have L:=AF E;have M:=AF L;refine EL (σ:=σ) ?_;rw [Lr h1 (B8 f F)];unfold Fp;simp only;rw [BE,Cx E F V];simp only;rw [A7 L F,A0 M F,AH Ao];simp only [BE,Bf]
 | @call1 kw m u kd l h1 V h3 h4 h5=>
  intro σ k rest X F N O;have ac:=YF l;simp only [jz,jy,jD] at O ⊢;obtain ⟨k,rfl⟩ : ∃j,k=j+1:=⟨k-1,Aa⟩
  have f:rem ts σ=kw::(m::([40]::(u::(Ov l++([41]::([59]::rest)))))):=by rw [N];simp
  have E:=AF f;have L:=AF E;have M:=AF L;have Y:=AF M;have U:=Cv Y;refine EL (σ:=σ) ?_;rw [Lr h1 (B8 f F)];unfold Fp DL;simp only;rw [BE,Cx E F V];simp only;rw [A7 L F,A0 M F,At (by simpa using Lq h3 Ao),Cx M F h3];simp only;rw [WD k l [] _ _ _ (C5 M) F Y Bg h4 (by simp only [jz,jD];omega) Aa];simp only;rw [ac] at U;rw [A7 U F];simp only [Bf];exact Prod.ext (by simp [Jt]) (congrArg (Df σ) Aa)
 | @branch kw ad ab kd a b c d x y z u h1 V h3 h4 h5 i3 i4=>
  intro σ k rest X F N O;simp only [jz,jy] at O ⊢;obtain ⟨k,rfl⟩ : ∃j,k=j+2:=⟨k-2,Aa⟩
  have f:rem ts σ=kw::(a++(b++(ad::(c++(ab::(d++([59]::rest))))))):=by rw [N];simp
  have E:=AF f;have L:=Cv E;have M:=Cv L;have Y:=AF M;have U:=Cv Y;have aa:=AF U;obtain ⟨b',Z⟩:=h3.bl_head;have w2:=C5 f;have w3:=GG w2 E;have w5:=C5 M;have w7:=C5 U;refine EL (σ:=σ) ?_;rw [L8 h1 (B8 f F),BI];(try simp only);rw [BE,V.reads_ex hd w2 F E (by rw [Z];exact GH Ao) (by rw [Z];exact DZ Ao) Aa];simp only;rw [GI (i3 (Df (Df σ 1) a.length) k _ w3 F L Aa)];simp only;rw [A7 M F,GI (i4 _ k _ w5 F Y Aa)];simp only;rw [A7 U F,h5.reads_ex hd w7 F aa (GH Ao) (DZ Ao) Aa];simp only [Bf];exact Prod.ext rfl (congrArg (Df σ) Aa)
 | @lstack m b x h1 V i2=>
  intro σ k rest X F N O;simp only [jz] at O ⊢;obtain ⟨k,rfl⟩ : ∃j,k=j+2:=⟨k-2,Aa⟩;have f:rem ts σ=[108,111,99,97,108]::([115,116,97,99,107]::(m::(b++([59]::rest)))):=N;have E:=AF f;have L:=AF E;have M:=AF L;refine EL (σ:=σ) ?_;rw [JU (B8 f F),Dy];simp only;rw [BE,AH (by rw [A0 E F];decide),BE,Cx L F h1];simp only;rw [GI (i2 (Df (Df (Df σ 1) 1) 1) k _ (C5 L) F M Aa)];simp only [Bf];exact Prod.ext rfl (congrArg (Df σ) Aa)
 | @local_ m a b d x y z h1 V h3 h4 i3=>
  intro σ k rest X F N O;simp only [jz,jy] at O ⊢;obtain ⟨k,rfl⟩ : ∃j,k=j+2:=⟨k-2,Aa⟩
  have f:rem ts σ=[108,111,99,97,108]::(m::([61]::(a++(b++([100,101,108,111,99,97,108]::(d++([59]::rest))))))):=by rw [N];simp
  have E:=AF f;have L:=AF E;have M:=AF L;have Y:=Cv M;have U:=Cv Y;have aa:=AF U;obtain ⟨b',Z⟩:=h3.bl_head;have w4:=C5 L;have w5:=GG w4 M;have w7:=C5 U;refine EL (σ:=σ) ?_;rw [JU (B8 f F),Dy];simp only;rw [BE,At (by rw [A0 E F];simpa using ER h1 Ao),Cx E F h1];simp only;rw [A7 L F,V.reads_ex hd w4 F M (by rw [Z];exact GH Ao) (by rw [Z];exact DZ Ao) Aa];simp only;rw [GI (i3 _ k _ w5 F Y Aa)];simp only;rw [A7 U F,h4.reads_ex hd w7 F aa (GH Ao) (DZ Ao) Aa];simp only [Bf];exact Prod.ext rfl (congrArg (Df σ) Aa)
 | @upd t a b x y h1 V h3=>
  intro σ k rest X F N O;simp only [jz,jy] at O ⊢;obtain ⟨k,rfl⟩ : ∃j,k=j+1:=⟨k-1,Aa⟩;obtain ⟨n1,n2,n3⟩:=bC V;have f:rem ts σ=a++(t::(b++([59]::rest))):=by rw [N];simp
  have E:=Cv f;have L:=AF E;obtain ⟨m,r,rfl,hm⟩:=h1.pl_head;refine EL (σ:=σ) ?_;rw [SH f F hm];unfold Di;simp only;rw [h1.reads_pl hd X F f (DZ n1) Aa];simp only;rw [At (by rw [A0 E F];simpa using n2),B8 E F,At V,BE,h3.reads_ex hd (C5 E) F L (GH Ao) (DZ Ao) Aa];simp only [Bf];exact Prod.ext rfl (congrArg (Df σ) Aa)
 | @swap a b x y h1 V=>
  intro σ k rest X F N O;simp only [jz,jy] at O ⊢;obtain ⟨k,rfl⟩ : ∃j,k=j+1:=⟨k-1,Aa⟩
  have f:rem ts σ=a++([60,61,62]::(b++([59]::rest))):=by rw [N];simp
  have E:=Cv f;have L:=AF E;obtain ⟨m,r,rfl,hm⟩:=h1.pl_head;refine EL (σ:=σ) ?_;rw [SH f F hm];unfold Di;simp only;rw [h1.reads_pl hd X F f (DZ Ao) Aa];simp only;rw [AH (by rw [A0 E F];decide),BE,V.reads_pl hd (C5 E) F L (DZ Ao) Aa];simp only [Bf];exact Prod.ext rfl (congrArg (Df σ) Aa)
 | @bl a l h1 i1=>
  intro σ k rest X F N O;simp only [jz,jy,jD] at O ⊢;obtain ⟨k,rfl⟩ : ∃j,k=j+1:=⟨k-1,Aa⟩
  have f:rem ts σ=[123]::(a++([125]::rest)):=by rw [N];simp
  have E:=AF f;refine EL (σ:=σ) ?_;rw [Cp];(try simp only);rw [A7 f F,i1.1 (Df σ 1) k [] rest (C5 f) F E Aa];simp only [km,Bf];exact Prod.ext rfl (congrArg (Df σ) Aa)
 | ls0=>
  refine ⟨fun σ k acc rest X F N O=>?_,fun σ k acc X F N O=>?_⟩
  . obtain ⟨k,rfl⟩ : ∃j,k=j+1:=⟨k-1,Aa⟩
    have f:rem ts σ=[125]::rest:=N;rw [CA,At (fun h=>h F),A0 f F,AH Ao];simp [BE]
  . obtain ⟨k,rfl⟩ : ∃j,k=j+1:=⟨k-1,Aa⟩
    have:=Jp (ts:=ts) σ;rw [N] at this;rw [Qb,At (fun h=>by simp at this;omega)];simp [Df]
 | @ls1 a b x l h1 V i1 i2=>
  obtain ⟨t,r,rfl,ht,-⟩:=h1.st_head;refine ⟨fun σ k acc rest X F N O=>?_,fun σ k acc X F N O=>?_⟩
  . simp only [jy,jz] at O ⊢;obtain ⟨k,rfl⟩ : ∃j,k=j+1:=⟨k-1,Aa⟩
    have f:rem ts σ=(t::r)++([59]::(b++([125]::rest))):=by rw [N];simp
    have E:=Cv f;have L:=AF E;rw [CA,At (fun h=>h F),A0 f F,At (by simpa using ht),GI (i1 σ k _ X F f (by simp only [jz];omega))];simp only;rw [A7 E F,i2.1 _ k _ rest (C5 E) F L Aa];simp only [Bf,jz];exact Prod.ext Bg (congrArg (Df σ) Aa)
  . simp only [jy,jz] at O ⊢;obtain ⟨k,rfl⟩ : ∃j,k=j+1:=⟨k-1,Aa⟩;have f:rem ts σ=(t::r)++([59]::b):=N;have E:=Cv f;have L:=AF E;rw [Qb,AH ⟨F,GD f⟩,GI (i1 σ k _ X F f (by simp only [jz];omega))];simp only;rw [A7 E F,i2.2 _ k _ (C5 E) F L Aa];simp only [Bf,jz];exact Prod.ext Bg (congrArg (Df σ) Aa)
end
section
variable {ts:List Tok} {n:Int} {I:PS->Prop}
structure Clo (ts:List Tok) (n:Int) (I:PS->Prop):Prop where
 next : ∀ σ,In ts σ->I σ->I (An σ)
 unexp : ∀ σ,σ.at_<=ts.length->I σ->I (Dl ts n σ)
 full : ∀ σ,In ts σ->I σ->I (BA σ (Ap ts σ).pos 5)
 range : ∀ σ,In ts σ->I σ->I (BA (An σ) (Ap ts σ).pos 2)
def Clo.expect (C:Clo ts n I) {σ:PS} {t:lB} (h:σ.at_<=ts.length) (ht:t≠[]) (i:I σ):I (Az ts n σ t):=by
 unfold Az;split
 . rename_i hh;exact C.next _ (AO h hh ht) i
 . exact C.unexp _ h i
def Clo.name (C:Clo ts n I) {σ:PS} (h:σ.at_<=ts.length) (i:I σ):I (A4 ts n σ).2:=by
 unfold A4;split
 . rename_i hh;exact C.next _ (Cf h (jF (Fx hh))) i
 . exact C.unexp _ h i
def Clo.number (C:Clo ts n I) {a b:Int} {σ:PS} (h:σ.at_<=ts.length) (i:I σ):I (BN ts n a b σ).2:=by
 unfold BN;split
 . rename_i hh;have hn:=Cf h (jG (by rw [hh];decide));split
   . exact C.next _ hn i
   . exact C.range _ hn i
 . exact C.unexp _ h i
def Clo.exprs (C:Clo ts n I) (k:Nat):(∀lv σ,σ.at_<=ts.length->I σ->I (Bu ts n k lv σ).2)/\(∀lv x σ,σ.at_<=ts.length->I σ->I (BO ts n k lv x σ).2) /\
 (∀ σ,σ.at_<=ts.length->I σ->I (Bc ts n k σ).2)/\(∀ σ,σ.at_<=ts.length->I σ->I (Bh ts n k σ).2)/\(∀ σ,σ.at_<=ts.length->I σ->I (By ts n k σ).2):=by
 induction k with
 | zero=>
  refine ⟨fun lv σ h i=>?_,fun lv x σ h i=>?_,fun σ h i=>?_,fun σ h i=>?_,fun σ h i=>?_⟩
  . rw [Bu];exact i
  . rw [BO];exact i
  . rw [Bc];exact i
  . rw [Bh];exact i
  . rw [By];exact i
 | succ k ih=>
  obtain ⟨iE,iC,iU,iP,iL⟩:=ih;obtain ⟨vE,vC,vU,vP,vL⟩:=Fj (ts:=ts) (n:=n) k;refine ⟨fun lv σ h i=>?_,fun lv x σ h i=>?_,fun σ h i=>?_,fun σ h i=>?_,fun σ h i=>?_⟩
  . rw [Bu];exact iC _ _ _ (vU σ h).1.wf (iU _ h i)
  . rw [BO];split
    . exact i
    . rename_i op hop;obtain ⟨hne,-⟩:=Gt hop;have hn:=Cf h (jF hne);split
      . exact i
      . have h1:=AA hn;have h2:=vE (Bv op+1) (An σ) h1.wf;exact iC _ _ _ h2.1.wf (iE _ _ h1.wf (C.next _ hn i))
  . rw [Bc];split
    . rename_i hh;have hn:=AO h hh Ao;exact iU _ (AA hn).wf (C.next _ hn i)
    . split
      . rename_i hh;have hn:=AO h hh Ao;exact iU _ (AA hn).wf (C.next _ hn i)
      . exact iP _ h i
  . rw [Bh];split
    . exact C.number h i
    . split
      . rename_i hh;have hn:=AO h hh Ao;have h1:=AA hn;have h2:=Ar (n:=n) (t:=[40]) h1.wf Ao;have h3:=AN (n:=n) h2.wf;exact C.expect h3.wf Ao (C.name h2.wf (C.expect h1.wf Ao (C.next _ hn i)))
      . split
        . rename_i hh;have hn:=AO h hh Ao;have h1:=AA hn;have h2:=Ar (n:=n) (t:=[40]) h1.wf Ao;have h3:=AN (n:=n) h2.wf;exact C.expect h3.wf Ao (C.name h2.wf (C.expect h1.wf Ao (C.next _ hn i)))
        . split
          . rename_i hh;have hn:=AO h hh Ao;have h1:=AA hn;exact C.expect (vE 1 _ h1.wf).1.wf Ao (iE _ _ h1.wf (C.next _ hn i))
          . exact iL _ h i
  . rw [By];have h0:=AN (n:=n) h;split
    . rename_i hh;have hn:=AO h0.wf hh Ao;have h1:=AA hn;exact C.expect (vE 1 _ h1.wf).1.wf Ao (iE _ _ h1.wf (C.next _ hn (C.name h i)))
    . exact C.name h i
def Clo.expr (C:Clo ts n I) {k:Nat} {lv:Int} {σ:PS} (h:σ.at_<=ts.length) (i:I σ):I (Bu ts n k lv σ).2:=(C.exprs k).1 lv σ h i
def Clo.place (C:Clo ts n I) {k:Nat} {σ:PS} (h:σ.at_<=ts.length) (i:I σ):I (By ts n k σ).2:=(C.exprs k).2.2.2.2 σ h i
def Jq {k:Nat} {σ:PS} (h:σ.at_<=ts.length):Le ts σ (By ts n k σ).2:=((Fj (ts:=ts) (n:=n) k).2.2.2.2 σ h).1
def Clo.args (C:Clo ts n I) (k:Nat) : ∀acc σ,σ.at_<=ts.length->I σ->I (CK ts n k acc σ).2:=by
 induction k with
 | zero=>intro acc σ h i;rw [CK];exact i
 | succ k ih=>
  intro acc σ h i;rw [CK];split
  . rename_i hh;have hn:=AO h hh Ao;have h1:=AA hn;have i1:=C.next _ hn i;split
    . rename_i h8;have l2:=B7 (ts:=ts) h1.wf (Ap ts (An σ)).pos 5;exact ih _ _ (AN (n:=n) l2.wf).wf (C.name l2.wf (C.full _ (Cf h1.wf (jF (Fx h8.2))) i1))
    . exact ih _ _ (AN (n:=n) h1.wf).wf (C.name h1.wf i1)
  . exact i
def KP (k:Nat) : ∀acc σ,σ.at_<=ts.length->Le ts σ (CK ts n k acc σ).2:=by
 induction k with
 | zero=>intro acc σ h;rw [CK];exact lx h
 | succ k E=>
  intro acc σ h;rw [CK];split
  . rename_i L;have h1:=AA (AO h L Ao);split
    . have F:=h1.trans (B7 (ts:=ts) h1.wf (Ap ts (An σ)).pos 5);have f:=F.trans (AN (n:=n) F.wf);exact f.trans (E _ _ f.wf)
    . have f:=h1.trans (AN (n:=n) h1.wf);exact f.trans (E _ _ f.wf)
  . exact lx h
def Clo.call (C:Clo ts n I) {k:Nat} {kind:Int} {σ:PS} (h:In ts σ) (i:I σ):I (Fp ts n k kind σ).2:=by
 unfold Fp;have h1:=AA h;have h2:=AN (n:=n) h1.wf;have h3:=Ar (n:=n) (t:=[40]) h2.wf Ao;have i3:=C.expect (t:=[40]) h2.wf Ao (C.name h1.wf (C.next _ h i));simp only;split
 . rename_i hh;exact C.next _ (AO h3.wf hh Ao) i3
 . have h4:=AN (n:=n) h3.wf;exact C.expect (KP k _ _ h4.wf).wf Ao (C.args k _ _ h4.wf (C.name h3.wf i3))
def Clo.update (C:Clo ts n I) {k:Nat} {σ:PS} (h:σ.at_<=ts.length) (i:I σ):I (Di ts n k σ).2:=by
 unfold Di;have h1:=Jq (n:=n) (k:=k) h;have i1:=C.place (k:=k) h i;simp only;split
 . rename_i hh;have hn:=AO h1.wf hh Ao;exact C.place (AA hn).wf (C.next _ hn i1)
 . split
   . exact C.unexp _ h1.wf i1
   . rename_i hh;have hn:=Cf h1.wf (jF (Nc hh));exact C.expr (AA hn).wf (C.next _ hn i1)
def Clo.stack (C:Clo ts n I) {k:Nat} {kind:Int} {σ:PS} (h:In ts σ) (i:I σ):I (Fu ts n k kind σ).2:=by
 unfold Fu;have h1:=AA h;have h2:=Jq (n:=n) (k:=k) h1.wf;have h3:=Ar (n:=n) (t:=[44]) h2.wf Ao;exact C.name h3.wf (C.expect h2.wf Ao (C.place h1.wf (C.next _ h i)))
def Clo.tape (C:Clo ts n I) {k:Nat} {kind:Int} {σ:PS} (h:In ts σ) (i:I σ):I (Gl ts n k kind σ).2:=by
 unfold Gl;exact C.place (AA h).wf (C.next _ h i)
def Clo.stmts (C:Clo ts n I) (k:Nat):(∀ σ,σ.at_<=ts.length->I σ->I (Bo ts n k σ).2)/\(∀kind mid last σ,In ts σ->mid≠[]->last≠[]->I σ->I (BI ts n k kind mid last σ).2)/\(∀ σ,In ts σ->I σ->I (Dy ts n k σ).2) /\
 (∀ σ,σ.at_<=ts.length->I σ->I (Cp ts n k σ).2)/\(∀acc σ,σ.at_<=ts.length->I σ->I (CA ts n k acc σ).2):=by
 induction k with
 | zero=>
  refine ⟨fun σ h i=>?_,fun kind mid last σ h _ _ i=>?_,fun σ h i=>?_,fun σ h i=>?_,fun acc σ h i=>?_⟩
  . rw [Bo];exact i
  . rw [BI];exact i
  . rw [Dy];exact i
  . rw [Cp];exact i
  . rw [CA];exact i
 | succ k ih=>
  obtain ⟨iS,iB,iL,iK,iT⟩:=ih;obtain ⟨vS,vB,vL,vK,vT⟩:=Eg (ts:=ts) (n:=n) k;refine ⟨fun σ h i=>?_,fun kind mid last σ hn hmid hlast i=>?_,fun σ hn i=>?_,fun σ h i=>?_,fun acc σ h i=>?_⟩
  . rw [Bo];have hin : ∀t:lB,t≠[]->(Ap ts σ).text=t->In ts σ:=fun t ht e=>Cf h (jF (by rw [e];exact ht))
    by_cases c:(Ap ts σ).text=[112,117,115,104]
    . rw [AH c];exact C.stack (hin _ Ao c) i
    rw [At c];clear c;by_cases c:(Ap ts σ).text=[112,111,112]
    . rw [AH c];exact C.stack (hin _ Ao c) i
    rw [At c];clear c;by_cases c:(Ap ts σ).text=[114,101,97,100]
    . rw [AH c];exact C.tape (hin _ Ao c) i
    rw [At c];clear c;by_cases c:(Ap ts σ).text=[117,110,114,101,97,100]
    . rw [AH c];exact C.tape (hin _ Ao c) i
    rw [At c];clear c;by_cases c:(Ap ts σ).text=[119,114,105,116,101]
    . rw [AH c];exact C.tape (hin _ Ao c) i
    rw [At c];clear c;by_cases c:(Ap ts σ).text=[117,110,119,114,105,116,101]
    . rw [AH c];exact C.tape (hin _ Ao c) i
    rw [At c];clear c;by_cases c:(Ap ts σ).text=[99,97,108,108]
    . rw [AH c];exact C.call (hin _ Ao c) i
    rw [At c];clear c;by_cases c:(Ap ts σ).text=[117,110,99,97,108,108]
    . rw [AH c];exact C.call (hin _ Ao c) i
    rw [At c];clear c;by_cases c:(Ap ts σ).text=[105,102]
    . rw [AH c];exact iB _ _ _ _ (hin _ Ao c) Ao Ao i
    rw [At c];clear c;by_cases c:(Ap ts σ).text=[102,114,111,109]
    . rw [AH c];exact iB _ _ _ _ (hin _ Ao c) Ao Ao i
    rw [At c];clear c;by_cases c:(Ap ts σ).text=[108,111,99,97,108]
    . rw [AH c];exact iL _ (hin _ Ao c) i
    rw [At c];clear c;exact C.update h i
  . rw [BI];have h1:=AA hn;have h2:=DV (n:=n) (k:=k) (lv:=1) h1.wf;have h3:=vK _ h2.wf;have h4:=Ar (n:=n) (t:=mid) h3.wf hmid;have h5:=vK _ h4.wf;have h6:=Ar (n:=n) (t:=last) h5.wf hlast;exact C.expr h6.wf (C.expect h5.wf hlast (iK _ h4.wf (C.expect h3.wf hmid (iK _ h2.wf (C.expr h1.wf (C.next _ hn i))))))
  . rw [Dy];have h1:=AA hn;have i1:=C.next _ hn i;split
    . rename_i hh;have a:=AO h1.wf hh Ao;have h2:=AA a;exact iK _ (AN (n:=n) h2.wf).wf (C.name h2.wf (C.next _ a i1))
    . have h2:=AN (n:=n) h1.wf;have h3:=Ar (n:=n) (t:=[61]) h2.wf Ao;have h4:=DV (n:=n) (k:=k) (lv:=1) h3.wf;have h5:=vK _ h4.wf;have h6:=Ar (n:=n) (t:=[100,101,108,111,99,97,108]) h5.wf Ao;exact C.expr h6.wf (C.expect h5.wf Ao (iK _ h4.wf (C.expr h3.wf (C.expect h2.wf Ao (C.name h1.wf i1)))))
  . rw [Cp];exact iT _ _ (Ar (n:=n) (t:=[123]) h Ao).wf (C.expect h Ao i)
  . rw [CA];split
    . exact i
    . split
      . rename_i hh;exact C.next _ (AO h hh Ao) i
      . have h1:=vS _ h;exact iT _ _ (Ar (n:=n) (t:=[59]) h1.wf Ao).wf (C.expect h1.wf Ao (iS _ h i))
def Clo.decl (C:Clo ts n I) {σ:PS} (h:σ.at_<=ts.length) (i:I σ):I (Bq ts n σ).2:=by
 unfold Bq;split
 . rename_i hh;have hn:=AO h hh Ao;exact C.name (AA hn).wf (C.next _ hn i)
 . split
   . rename_i hh;have hn:=AO h hh Ao;exact C.name (AA hn).wf (C.next _ hn i)
   . split
     . rename_i hh;have hn:=AO h hh Ao;have h1:=AA hn;have h2:=AN (n:=n) h1.wf;have h3:=Ar (n:=n) (t:=[91]) h2.wf Ao;have h4:=Gc (n:=n) (a:=1) (b:=16) h3.wf;exact C.expect h4.wf Ao (C.number h3.wf (C.expect h2.wf Ao (C.name h1.wf (C.next _ hn i))))
     . exact C.unexp _ h i
def Pu {σ:PS} (h:σ.at_<=ts.length) (f:Cd ts σ=true):In ts σ:=by
 simp only [Cd,Bool.or_eq_true] at f;rcases f with (c|c)|c<;>exact AO h c Ao
def Clo.params (C:Clo ts n I) (k:Nat) : ∀acc σ,σ.at_<=ts.length->I σ->I (Bn ts n k acc σ).2:=by
 induction k with
 | zero=>intro acc σ h i;rw [Bn];exact i
 | succ k ih=>
  intro acc σ h i;rw [Bn];split
  . rename_i hh;have hn:=AO h hh Ao;have h1:=AA hn;have i1:=C.next _ hn i;simp only;split
    . rename_i h8;have l2:=B7 (ts:=ts) h1.wf (Ap ts (An σ)).pos 5;exact ih _ _ (CD (n:=n) l2.wf).wf (C.decl l2.wf (C.full _ (Pu h1.wf h8.2) i1))
    . exact ih _ _ (CD (n:=n) h1.wf).wf (C.decl h1.wf i1)
  . exact i
structure CloL (ts:List Tok) (n:Int) (I:PS->Prop):Prop extends Clo ts n I where
 lim : ∀ σ x τ,σ.at_<=ts.length->I σ->I τ->I (D5 x (Ap ts σ).pos τ)
def CloL.body (C:CloL ts n I) {k:Nat} {σ:PS} (h:σ.at_<=ts.length) (i:I σ):I (EZ ts n k σ).2:=by
 unfold EZ;exact C.lim _ _ _ h i ((C.toClo.stmts k).2.2.2.1 _ h i)
def CloL.proc (C:CloL ts n I) {k:Nat} {σ:PS} (h:σ.at_<=ts.length) (i:I σ):I (Dk ts n k σ).2:=by
 rw [Gy];have h1:=Ar (n:=n) (t:=[112,114,111,99]) h Ao;have h2:=AN (n:=n) h1.wf;have h3:=Ar (n:=n) (t:=[40]) h2.wf Ao;have i3:=C.expect (t:=[40]) h2.wf Ao (C.name h1.wf (C.expect (t:=[112,114,111,99]) h Ao i));have h4:=Gx (n:=n) (k:=k) h3.wf;refine C.body h4.wf ?_;unfold GR;split
 . rename_i hh;exact C.next _ (AO h3.wf hh Ao) i3
 . have h5:=CD (n:=n) h3.wf;exact C.expect (Fz (n:=n) k _ _ h5.wf).wf Ao (C.params k _ _ h5.wf (C.decl h3.wf i3))
def CloL.vars (C:CloL ts n I) (k:Nat) : ∀acc σ,σ.at_<=ts.length->I σ->I (Do ts n k acc σ).2:=by
 induction k with
 | zero=>intro acc σ h i;rw [Do];exact i
 | succ k f=>
  intro acc σ h i;rw [Do];split
  . rename_i F;simp only;split
    . have E:=B7 (ts:=ts) h (Ap ts σ).pos 5;exact f _ _ (CD (n:=n) E.wf).wf (C.decl E.wf (C.full _ (Pu h F) i))
    . exact f _ _ (CD (n:=n) h).wf (C.decl h i)
  . exact i
def CloL.procs (C:CloL ts n I) (k:Nat) : ∀acc σ,σ.at_<=ts.length->I σ->I (B0 ts n k acc σ).2:=by
 induction k with
 | zero=>intro acc σ h i;rw [B0];exact i
 | succ k f=>
  intro acc σ h i;rw [B0];split
  . rename_i F;simp only;split
    . have E:=B7 (ts:=ts) h (Ap ts σ).pos 5;exact f _ _ (Eh (n:=n) (k:=k) E.wf).wf (C.proc E.wf (C.full _ (AO h F Ao) i))
    . exact f _ _ (Eh (n:=n) (k:=k) h).wf (C.proc h i)
  . exact i
def CloL.program (C:CloL ts n I) {k:Nat} {σ:PS} (h:σ.at_<=ts.length) (i:I σ):I (BD ts n k σ).2:=by
 unfold BD;have h1:=It (n:=n) k [] σ h;have f:=Ei (n:=n) k [] _ h1.wf;exact C.body (Ar (n:=n) (t:=[109,97,105,110]) f.wf Ao).wf (C.expect f.wf Ao (C.procs k _ _ h1.wf (C.vars k _ _ h i)))
def Clo.finish (C:Clo ts n I) {σ:PS} (h:σ.at_<=ts.length) (i:I σ):I (DD ts n σ):=by
 unfold DD;split
 . exact C.unexp _ h i
 . exact i
end
section
variable {ts:List Tok} {n:Int}
def T6 (k:Nat) : ∀(acc:List Nd) (σ:PS),σ.at_<=ts.length->acc.length<=8->(CK ts n k acc σ).2.err=0 -> ∃l:CS,Seg ts σ (CK ts n k acc σ).2 (Ov l)/\(∀v∈l,AU v=true)/\(CK ts n k acc σ).1=acc++l.map Jt/\acc.length+l.length<=8:=by
 induction k with
 | zero=>intro acc σ h M f;rw [CK];exact ⟨[],Seg.refl _,Bg,Bg,by simpa using M⟩
 | succ k X=>
  intro acc σ h M f;rw [CK] at f ⊢;split at f
  . rename_i E;rw [AH E];have Y:=AO h E Ao;have h1:=AA Y;by_cases c:acc.length=8/\AU (Ap ts (An σ)).text=true
    . rw [AH c] at f;exfalso;have Z:=B7 (ts:=ts) h1.wf (Ap ts (An σ)).pos 5;have F:=AN (n:=n) Z.wf;exact absurd ((F.trans (KP k _ _ F.wf)).ok f) (Ef Ao)
    . rw [At c] at f ⊢;have F:=AN (n:=n) h1.wf;have e3:=(KP (n:=n) k (acc++[(DL ts n (An σ)).1]) _ F.wf).ok f;obtain ⟨s3,L⟩:=Dg h1.wf e3;have aa:acc.length<8:=by
       rcases jX acc.length 8 with V|V
       . exact V
       . exfalso;refine c ⟨Aa,?_⟩;unfold A4 at L;split at L
         . assumption
         . have N:AU []=true:=L;exact absurd N Ao
      obtain ⟨l,sl,hl,hr,O⟩:=X (acc++[(DL ts n (An σ)).1]) (DL ts n (An σ)).2 F.wf (by simp only [jy,jz,jD];omega) f;refine ⟨(A4 ts n (An σ)).1::l,?_,?_,?_,?_⟩
      . exact ((EQ h E Ao).trans s3).trans sl
      . intro v U;rcases jR.1 U with rfl|U
        . exact L
        . exact hl v U
      . rw [hr];simp [DL,Jt]
      . simp only [jy,jz,jD] at O ⊢;omega
  . rename_i E;rw [At E];exact ⟨[],Seg.refl _,Bg,Bg,by simpa using M⟩
def T7 {k:Nat} {kw:lB} {kd:Int} {σ:PS} (F:(kw,kd)∈FC) (hp:(Ap ts σ).text=kw) (h:In ts σ) (f:(Fp ts n k kd σ).2.err=0) : ∃a,Seg ts σ (Fp ts n k kd σ).2 a/\GS .st a [(Fp ts n k kd σ).1]:=by
 have h1:=AA h;have N:=AN (n:=n) h1.wf;have E:=Ar (n:=n) (t:=[40]) N.wf Ao;have O:=EJ h;rw [hp] at O;unfold Fp at f ⊢;simp only at f ⊢;split at f
 . rename_i L;rw [AH L];have M:=(AA (AO E.wf L Ao)).ok f;obtain ⟨U,V⟩:=Dg h1.wf (E.ok M);exact ⟨_,((O.trans U).trans (B5 N.wf Ao M)).trans (EQ E.wf L Ao),GS.call0 F V⟩
 . rename_i L;rw [At L];have X:=AN (n:=n) E.wf;have Y:=KP (n:=n) k [(DL ts n (Az ts n (A4 ts n (An σ)).2 [40])).1] _ X.wf;have e5:=(Ar (n:=n) (t:=[41]) Y.wf Ao).ok f;have e4:=Y.ok e5;have M:=X.ok e4;obtain ⟨U,V⟩:=Dg h1.wf (E.ok M);obtain ⟨s4,hu⟩:=Dg E.wf e4;obtain ⟨l,sl,hl,hr,h8⟩:=T6 (n:=n) k _ _ X.wf Bg e5;refine ⟨_,O.trans (U.trans ((B5 N.wf Ao M).trans (s4.trans (sl.trans (B5 Y.wf Ao f))))),?_⟩;have Z:(CK ts n k [(DL ts n (Az ts n (A4 ts n (An σ)).2 [40])).1] (DL ts n (Az ts n (A4 ts n (An σ)).2 [40])).2).1=((A4 ts n (Az ts n (A4 ts n (An σ)).2 [40])).1::l).map Jt:=hr.trans (by simp [DL,Jt]);rw [Z];exact GS.call1 F V hu hl (by simp only [jz,jD] at h8;omega)
def FV (f:A2 ts) {k:Nat} {σ:PS} (h:σ.at_<=ts.length) (E:4*mS ts σ+1<=k) (F:(By ts n k σ).2.err=0) : ∃a,Seg ts σ (By ts n k σ).2 a/\G .pl a (By ts n k σ).1:=(NQ f k).2.2.2.2 σ h E F
def Jb (f:A2 ts) {k:Nat} {lv:Int} {σ:PS} (h:σ.at_<=ts.length) (E:4*mS ts σ+4<=k) (F:(Bu ts n k lv σ).2.err=0) : ∃a,Seg ts σ (Bu ts n k lv σ).2 a/\G (.ex lv) a (Bu ts n k lv σ).1:=by
 obtain ⟨a,h1,L,-⟩:=(NQ f k).1 lv σ h E F;exact ⟨a,h1,L⟩
def QP (L:A2 ts) {k:Nat} {σ:PS} (h:σ.at_<=ts.length) (X:4*mS ts σ+1<=k) (E:(Di ts n k σ).2.err=0) : ∃a,Seg ts σ (Di ts n k σ).2 a/\GS .st a [(Di ts n k σ).1]:=by
 have h1:=Jq (n:=n) (k:=k) h;have Z:=BJ h1;unfold Di at E ⊢;simp only at E ⊢;split at E
 . rename_i F;rw [AH F];have f:=AO h1.wf F Ao;have Y:=Ck f;obtain ⟨a,M,N⟩:=FV L h X f.1;obtain ⟨b,O,U⟩:=FV L (AA f).wf Aa E;exact ⟨_,M.trans ((EQ h1.wf F Ao).trans O),GS.swap N U⟩
 . rename_i F;rw [At F];split at E
   . exact absurd E E0
   . rename_i V;rw [At V];have f:=Cf h1.wf (jF (Nc V));have Y:=Ck f;obtain ⟨a,M,N⟩:=FV L h X f.1;obtain ⟨b,O,U⟩:=Jb L (AA f).wf Aa E;exact ⟨_,M.trans ((EJ f).trans O),GS.upd N V U⟩
def T8 {σ σ':PS} (h:Le ts σ σ') (k:Lt σ σ') (e:σ'.err=0):mS ts σ'+1<=mS ts σ:=by
 have f:=h.ok e;have h1:=k e;have E:=h.wf;unfold mS;rw [AH e,AH f];omega
def U4 {k:Nat} {lv:Int} {σ:PS} (h:σ.at_<=ts.length) (f:4<=k):mS ts (Bu ts n k lv σ).2+1<=mS ts σ\/mS ts (Bu ts n k lv σ).2=0:=by
 have:=(Fj (ts:=ts) (n:=n) k).1 lv σ h;exact UR this.1 (this.2 f)
def Pv {σ:PS} {t:lB} (h:σ.at_<=ts.length) (f:t≠[]):mS ts (Az ts n σ t)+1<=mS ts σ\/mS ts (Az ts n σ t)=0:=UR (Ar h f) D3
def NS (hd:A2 ts) (k:Nat) :
 (∀ σ,σ.at_<=ts.length->4*mS ts σ+6<=k->(Bo ts n k σ).2.err=0 -> ∃a,Seg ts σ (Bo ts n k σ).2 a/\GS .st a [(Bo ts n k σ).1]) /\
 (∀kw kd L E σ,(kw,kd,L,E)∈EK->(Ap ts σ).text=kw->In ts σ->4*mS ts σ+5<=k->(BI ts n k kd L E σ).2.err=0 -> ∃a,Seg ts σ (BI ts n k kd L E σ).2 a/\GS .st a [(BI ts n k kd L E σ).1]) /\
 (∀ σ,(Ap ts σ).text=[108,111,99,97,108]->In ts σ->4*mS ts σ+5<=k->(Dy ts n k σ).2.err=0 -> ∃a,Seg ts σ (Dy ts n k σ).2 a/\GS .st a [(Dy ts n k σ).1]) /\
 (∀ σ,σ.at_<=ts.length->4*mS ts σ+8<=k->(Cp ts n k σ).2.err=0 -> ∃a,Seg ts σ (Cp ts n k σ).2 a/\GS .bl a [(Cp ts n k σ).1]) /\
 (∀acc σ,σ.at_<=ts.length->4*mS ts σ+7<=k->(CA ts n k acc σ).2.err=0 -> ∃a l,Seg ts σ (CA ts n k acc σ).2 (a++[[125]])/\GS .ls a l/\(CA ts n k acc σ).1=acc++l):=by
 induction k with
 | zero=>refine ⟨fun _ _ h=>?_,fun _ _ _ _ _ _ _ _ h=>?_,fun _ _ _ h=>?_,fun _ _ h=>?_,fun _ _ _ h=>?_⟩<;>omega
 | succ k ih=>
  obtain ⟨iS,iB,iL,iK,iT⟩:=ih;obtain ⟨vS,vB,vL,vK,vT⟩:=Eg (ts:=ts) (n:=n) k;refine ⟨fun σ h hk f=>?_,fun kw kd L E σ F N U hk f=>?_,fun σ N U hk f=>?_,fun σ h hk f=>?_,fun acc σ h hk f=>?_⟩
  . have Z : ∀t:lB,t≠[]->(Ap ts σ).text=t->In ts σ:=fun t ht e=>Cf h (jF (by rw [e];exact ht))
    have ae : ∀kw kd,(kw,kd)∈Iv->kw≠[]->(Ap ts σ).text=kw -> ∃a,Seg ts σ (Bo ts n (k+1) σ).2 a/\GS .st a [(Bo ts n (k+1) σ).1]:=by
     intro kw kd F V N;have U:=Z kw V N;have m1:=Ck U;rw [NR F N] at f ⊢;have X:=EJ U;rw [N] at X;unfold Fu at f ⊢;simp only at f ⊢;have h1:=AA U;have O:=Jq (n:=n) (k:=k) h1.wf;have M:=Ar (n:=n) (t:=[44]) O.wf Ao;have Y:=AN (n:=n) M.wf;have e3:=Y.ok f;obtain ⟨a,sa,ga⟩:=FV hd h1.wf Aa (M.ok e3);obtain ⟨s4,hm⟩:=Dg M.wf f;exact ⟨_,X.trans (sa.trans ((B5 O.wf Ao e3).trans s4)),GS.stack F ga hm⟩
    have ab : ∀kw kd,(kw,kd)∈Ja->kw≠[]->(Ap ts σ).text=kw -> ∃a,Seg ts σ (Bo ts n (k+1) σ).2 a/\GS .st a [(Bo ts n (k+1) σ).1]:=by
     intro kw kd F V N;have U:=Z kw V N;have m1:=Ck U;rw [Ps F N] at f ⊢;have X:=EJ U;rw [N] at X;unfold Gl at f ⊢;simp only at f ⊢;have h1:=AA U;obtain ⟨a,sa,ga⟩:=FV hd h1.wf Aa f;exact ⟨_,X.trans sa,GS.tape F ga⟩
    have af : ∀kw kd,(kw,kd)∈FC->kw≠[]->(Ap ts σ).text=kw -> ∃a,Seg ts σ (Bo ts n (k+1) σ).2 a/\GS .st a [(Bo ts n (k+1) σ).1]:=by
     intro kw kd F V N;rw [Lr F N] at f ⊢;exact T7 F N (Z kw V N) f
    have ag : ∀kw kd L E,(kw,kd,L,E)∈EK->kw≠[]->(Ap ts σ).text=kw -> ∃a,Seg ts σ (Bo ts n (k+1) σ).2 a/\GS .st a [(Bo ts n (k+1) σ).1]:=by
     intro kw kd L E F V N;rw [L8 F N] at f ⊢;exact iB kw kd L E σ F N (Z kw V N) Aa f
    by_cases c:(Ap ts σ).text=[112,117,115,104]
    . exact ae _ 44 Ao Ao c
    by_cases c2:(Ap ts σ).text=[112,111,112]
    . exact ae _ 45 Ao Ao c2
    by_cases c3:(Ap ts σ).text=[114,101,97,100]
    . exact ab _ 46 Ao Ao c3
    by_cases c4:(Ap ts σ).text=[117,110,114,101,97,100]
    . exact ab _ 47 Ao Ao c4
    by_cases c5:(Ap ts σ).text=[119,114,105,116,101]
    . exact ab _ 48 Ao Ao c5
    by_cases c6:(Ap ts σ).text=[117,110,119,114,105,116,101]
    . exact ab _ 49 Ao Ao c6
    by_cases c7:(Ap ts σ).text=[99,97,108,108]
    . exact af _ 50 Ao Ao c7
    by_cases c8:(Ap ts σ).text=[117,110,99,97,108,108]
    . exact af _ 51 Ao Ao c8
    by_cases c9:(Ap ts σ).text=[105,102]
    . exact ag _ 52 [101,108,115,101] [102,105] Ao Ao c9
    by_cases ah:(Ap ts σ).text=[102,114,111,109]
    . exact ag _ 53 [108,111,111,112] [117,110,116,105,108] Ao Ao ah
    by_cases ac:(Ap ts σ).text=[108,111,99,97,108]
    . rw [JU ac] at f ⊢;exact iL σ ac (Z _ Ao ac) Aa f
    have e:Bo ts n (k+1) σ=Di ts n k σ:=by
     rw [Bo,At c,At c2,At c3,At c4,At c5,At c6,At c7,At c8,At c9,At ah,At ac]
    rw [e] at f ⊢;exact QP hd h Aa f
  . rw [BI] at f ⊢;obtain ⟨ad,aa⟩:=WE F;have X:=EJ U;rw [N] at X;have m0:=Ck U;have h1:=AA U;have O:=DV (n:=n) (k:=k) (lv:=1) h1.wf;have m2:=U4 (n:=n) (k:=k) (lv:=1) h1.wf Aa;have M:=vK _ O.wf;have m3:=BJ M;have Y:=Ar (n:=n) (t:=L) M.wf ad;have m4:=BJ Y;have h5:=vK _ Y.wf;have m5:=BJ h5;have h6:=Ar (n:=n) (t:=E) h5.wf aa;have m6:=BJ h6;have h7:=DV (n:=n) (k:=k) (lv:=1) h6.wf;simp only at f ⊢;have e6:=h7.ok f;have e5:=h6.ok e6;have e4:=h5.ok e5;have e3:=Y.ok e4;have e2:=M.ok e3;obtain ⟨a,sa,ga⟩:=Jb hd h1.wf Aa e2;obtain ⟨b,sb,gb⟩:=iK _ O.wf Aa e3;obtain ⟨c,sc,gc⟩:=iK _ Y.wf Aa e5;obtain ⟨d,sd,gd⟩:=Jb hd h6.wf Aa f;exact ⟨_,X.trans (sa.trans (sb.trans ((B5 M.wf ad e4).trans (sc.trans ((B5 h5.wf aa e6).trans sd))))),GS.branch F ga gb gc gd⟩
  . rw [Dy] at f ⊢;have X:=EJ U;rw [N] at X;have m0:=Ck U;have h1:=AA U;split at f
    . rename_i hh;rw [AH hh];have ai:=AO h1.wf hh Ao;have m1:=Ck ai;have O:=AA ai;have M:=AN (n:=n) O.wf;have m3:=BJ M;have Y:=vK _ M.wf;simp only at f ⊢;obtain ⟨s3,hm⟩:=Dg O.wf (Y.ok f);obtain ⟨b,sb,gb⟩:=iK _ M.wf Aa f;exact ⟨_,X.trans ((EQ h1.wf hh Ao).trans (s3.trans sb)),GS.lstack hm gb⟩
    . rename_i hh;rw [At hh];have O:=AN (n:=n) h1.wf;have m2:=BJ O;have M:=Ar (n:=n) (t:=[61]) O.wf Ao;have m3:=BJ M;have Y:=DV (n:=n) (k:=k) (lv:=1) M.wf;have m4:=U4 (n:=n) (k:=k) (lv:=1) M.wf Aa;have h5:=vK _ Y.wf;have m5:=BJ h5;have h6:=Ar (n:=n) (t:=[100,101,108,111,99,97,108]) h5.wf Ao;have m6:=BJ h6;have h7:=DV (n:=n) (k:=k) (lv:=1) h6.wf;simp only at f ⊢;have e6:=h7.ok f;have e5:=h6.ok e6;have e4:=h5.ok e5;have e3:=Y.ok e4;have e2:=M.ok e3;obtain ⟨s2,hm⟩:=Dg h1.wf e2;obtain ⟨a,sa,ga⟩:=Jb hd M.wf Aa e4;obtain ⟨b,sb,gb⟩:=iK _ Y.wf Aa e5;obtain ⟨d,sd,gd⟩:=Jb hd h6.wf Aa f;exact ⟨_,X.trans (s2.trans ((B5 O.wf Ao e3).trans (sa.trans (sb.trans ((B5 h5.wf Ao e6).trans sd))))),GS.local_ hm ga gb gd⟩
  . rw [Cp] at f ⊢;have h1:=Ar (n:=n) (t:=[123]) h Ao;have m1:=Pv (n:=n) (t:=[123]) h Ao;have O:=vT [] _ h1.wf;simp only at f ⊢;obtain ⟨a,l,sa,ga,hl⟩:=iT [] _ h1.wf Aa f;refine ⟨_,(B5 h Ao (O.ok f)).trans sa,?_⟩;rw [hl];exact GS.bl ga
  . rw [CA] at f ⊢;split at f
    . exact absurd f Af
    . rename_i h0;rw [At h0];split at f
      . rename_i hh;rw [AH hh];exact ⟨[],[],EQ h hh Ao,GS.ls0,Bg⟩
      . rename_i hh;rw [At hh];have h1:=vS σ h;have m1:=BJ h1;have O:=Ar (n:=n) (t:=[59]) h1.wf Ao;have m2:=Pv (n:=n) (t:=[59]) h1.wf Ao;have M:=vT (acc++[(Bo ts n k σ).1]) _ O.wf;have e2:=M.ok f;have m3:=T8 O D3 e2;obtain ⟨a,sa,ga⟩:=iS σ h Aa (O.ok e2);obtain ⟨b,l,sb,gb,hl⟩:=iT _ _ O.wf Aa f;refine ⟨a++[59]::b,(Bo ts n k σ).1::l,?_,GS.ls1 ga gb,by rw [hl];simp⟩;have:=sa.trans ((B5 h1.wf Ao e2).trans sb);simpa using this
end
def WG (l:CS) (h : ∀v∈l,AU v=true):(l.map Jt).all Nd.isVar=true:=by
 rw [kG];intro x f;obtain ⟨v,E,rfl⟩:=List.mem_map.1 f;simp [Jt,Nd.isVar,lD,kZ,named,h v E]
def GS.valid {O:NtS} {a:CS} {l:List Nd} (h:GS O a l):match O with
 | .st=> ∀x,l=[x]->x.isStmt=true
 | .bl=> ∀x,l=[x]->x.isBlock=true
 | .ls=>DR l=true:=by
 induction h with
 | stack h1 f E=>
  rintro x ⟨⟩;have:=f.valid;simp only [Iv,jR,kf,jU,or_false] at h1;rcases h1 with ⟨-,rfl⟩|⟨-,rfl⟩<;>(unfold lI;simp only at this;simp [named,E,this])
 | tape h1 f=>
  rintro x ⟨⟩;have:=f.valid;simp only [Ja,jR,kf,jU,or_false] at h1;rcases h1 with ⟨-,rfl⟩|⟨-,rfl⟩|⟨-,rfl⟩|⟨-,rfl⟩<;>(unfold lI;simp only at this;simp [plain,this])
 | call0 h1 f=>
  rintro x ⟨⟩;simp only [FC,jR,kf,jU,or_false] at h1;rcases h1 with ⟨-,rfl⟩|⟨-,rfl⟩<;>(unfold lI;simp [named,f])
 | @call1 kw m u kd l h1 f E M U=>
  rintro x ⟨⟩;have F:=WG (u::l) (fun v F=>by rcases jR.1 F with rfl|F;exact E;exact M v F);have X:((u::l).map Jt).length<=8:=by simp only [List.length_map,jz];omega
  simp only [FC,jR,kf,jU,or_false] at h1;generalize (u::l).map Jt=q at *;rcases h1 with ⟨-,rfl⟩|⟨-,rfl⟩<;>(unfold lI;simp [named,f,X,F])
 | branch h1 f E M U i3 i4=>
  rintro x ⟨⟩;have v2:=f.valid;have v5:=U.valid;have v3:=i3 _ rfl;have v4:=i4 _ rfl;simp only [EK,jR,kf,jU,or_false] at h1;simp only at v2 v5;rcases h1 with ⟨-,rfl,-⟩|⟨-,rfl,-⟩<;>(unfold lI;simp [plain,v2,v3,v4,v5])
 | lstack h1 f i2=>
  rintro x ⟨⟩;have v2:=i2 _ rfl;unfold lI;simp [named,h1,v2]
 | local_ h1 f E M i3=>
  rintro x ⟨⟩;have v2:=f.valid;have v3:=i3 _ rfl;have v4:=M.valid;simp only at v2 v4;unfold lI;simp [named,h1,v2,v3,v4]
 | @upd t a b x y h1 f E=>
  rintro z ⟨⟩;have L:=h1.valid;have v3:=E.valid;simp only at L v3;have Y:CC t=40\/CC t=41\/CC t=42\/CC t=56:=by
   unfold CC at f ⊢;by_cases V:t=[43,61]
   . simp [V]
   by_cases c2:t=[45,61]
   . simp [c2]
   by_cases c3:t=[94,61]
   . simp [c3]
   by_cases c4:t=[58,61]
   . simp [c4]
   simp [V,c2,c3,c4] at f
  unfold lI;rw [AH Y];simp [plain,L,v3]
 | swap h1 f=>
  rintro x ⟨⟩;have L:=h1.valid;have v2:=f.valid;simp only at L v2;unfold lI;simp [plain,L,v2]
 | bl h1 N=>
  rintro x ⟨⟩;simp only at N;unfold Nd.isBlock;simp [plain,N]
 | ls0=>simp [DR]
 | ls1 h1 f N i2=>
  have:=N _ rfl;simp only at i2;simp only [DR,this,i2,Bool.and_self]
section
variable {ts:List Tok} {n:Int}
def KQ {x:Nd} {off:Int} {σ:PS} (h:(D5 x off σ).err=0):σ.err=0/\x.depth<=80/\x.size<=2000:=by
 unfold D5 at h;split at h
 . exact absurd h Af
 . rename_i E;have f:σ.err=0:=by simpa using E
   split at h
   . exact absurd h (Ef Ao)
   . split at h
     . exact absurd h (Ef Ao)
     . exact ⟨f,Aa,Aa⟩
def T9 (k:Nat) : ∀(acc:List VD) (σ:PS),σ.at_<=ts.length->(Do ts n k acc σ).2.err=0->acc.length<=32->(Do ts n k acc σ).1.length<=32:=by
 induction k with
 | zero=>intro acc σ h f L;rw [Do];exact L
 | succ k N=>
  intro acc σ h f L;rw [Do] at f ⊢;split at f
  . rename_i M;rw [AH M];simp only at f ⊢;by_cases E:acc.length=32
    . rw [AH E] at f;have O:=B7 (ts:=ts) h (Ap ts σ).pos 5;have F:=CD (n:=n) O.wf;exact absurd ((F.trans (It k _ _ F.wf)).ok f) (Ef Ao)
    . rw [At E] at f ⊢;have F:=CD (n:=n) h;exact N _ _ F.wf f (by simp only [jy,jz,jD];omega)
  . rename_i M;rw [At M];exact L
def QQ (k:Nat) : ∀(acc:List VD) (σ:PS),σ.at_<=ts.length->(Bn ts n k acc σ).2.err=0->acc.length<=8->(Bn ts n k acc σ).1.length<=8:=by
 induction k with
 | zero=>intro acc σ h f M;rw [Bn];exact M
 | succ k U=>
  intro acc σ h f M;rw [Bn] at f ⊢;split at f
  . rename_i F;rw [AH F];simp only at f ⊢;have O:=AA (AO h F Ao);by_cases N:acc.length=8/\Cd ts (An σ)=true
    . rw [AH N] at f;have V:=B7 (ts:=ts) O.wf (Ap ts (An σ)).pos 5;have E:=CD (n:=n) V.wf;exact absurd ((E.trans (Fz k _ _ E.wf)).ok f) (Ef Ao)
    . rw [At N] at f ⊢;have E:=CD (n:=n) O.wf;by_cases X:acc.length=8
      . have L:Cd ts (An σ)=false:=by
         cases hh:Cd ts (An σ)
         . rfl
         . exact absurd ⟨X,hh⟩ N
        have Y:(Bq ts n (An σ)).2.err≠0:=by
         simp only [Cd,Bool.or_eq_false_iff] at L;unfold Bq;rw [At (by simp [L.1.1]),At (by simp [L.2]),At (by simp [L.1.2])];exact E0
        exact absurd ((Fz k _ _ E.wf).ok f) Y
      . exact U _ _ E.wf f (by simp only [jy,jz,jD];omega)
  . rename_i F;rw [At F];exact M
def L9 {k:Nat} {σ:PS} (h:σ.at_<=ts.length) (f:(Dk ts n k σ).2.err=0):(Dk ts n k σ).1.params.length<=8/\(Dk ts n k σ).1.body.size<=2000:=by
 rw [Gy] at f ⊢;simp only at f ⊢;have L:=Ar (n:=n) (t:=[112,114,111,99]) h Ao;have M:=L.trans (AN (n:=n) L.wf);have N:=M.trans (Ar (n:=n) (t:=[40]) M.wf Ao);generalize Az ts n (A4 ts n (Az ts n σ [112,114,111,99])).2 [40]=V at *;have X:=Gx (n:=n) (k:=k) N.wf;unfold EZ at f ⊢;simp only at f ⊢;have O:=KQ f;refine ⟨?_,O.2.2⟩;have E:=((Eg (ts:=ts) (n:=n) k).2.2.2.1 _ X.wf).ok O.1;unfold GR at E ⊢;split at E
 . rename_i F;rw [AH F];exact jN _
 . rename_i F;rw [At F];simp only at E ⊢;have U:=CD (n:=n) N.wf;have Y:=Fz (n:=n) k [(Bq ts n V).1] _ U.wf;exact QQ k _ _ U.wf ((Ar (n:=n) (t:=[41]) Y.wf Ao).ok E) Bg
def SI (k:Nat) : ∀(acc:List PD) (σ:PS),σ.at_<=ts.length->(B0 ts n k acc σ).2.err=0->acc.length<=64->(∀p∈acc,p.params.length<=8/\p.body.size<=2000) ->
 (B0 ts n k acc σ).1.length<=64 /\ ∀p∈(B0 ts n k acc σ).1,p.params.length<=8/\p.body.size<=2000:=by
 induction k with
 | zero=>intro acc σ h f N M;rw [B0];exact ⟨N,M⟩
 | succ k U=>
  intro acc σ h f N M;rw [B0] at f ⊢;split at f
  . rename_i O;rw [AH O];simp only at f ⊢;by_cases E:acc.length=64
    . rw [AH E] at f;have V:=B7 (ts:=ts) h (Ap ts σ).pos 5;have F:=Eh (n:=n) (k:=k) V.wf;exact absurd ((F.trans (Ei k _ _ F.wf)).ok f) (Ef Ao)
    . rw [At E] at f ⊢;have F:=Eh (n:=n) (k:=k) h;refine U _ _ F.wf f (by simp only [jy,jz,jD];omega) (fun p L=>?_);rcases List.mem_append.1 L with L|L
      . exact M p L
      . have:p=(Dk ts n k σ).1:=by simpa using L
        rw [this];exact L9 h ((Ei k _ _ F.wf).ok f)
  . rename_i O;rw [At O];exact ⟨N,M⟩
def PA {σ:PS} (h:(DD ts n σ).err=0):σ.err=0 /\ ¬ σ.at_<ts.length:=by
 unfold DD at h;split at h
 . exact absurd h E0
 . exact ⟨h,Af⟩
def JC {k:Nat} {σ:PS} (h:σ.at_<=ts.length) (f:(BD ts n k σ).2.err=0) :
 (BD ts n k σ).1.vars.length<=32/\(BD ts n k σ).1.procs.length<=64/\(∀p∈(BD ts n k σ).1.procs,p.params.length<=8/\p.body.size<=2000)/\(BD ts n k σ).1.main.size<=2000:=by
 unfold BD at f ⊢;simp only at f ⊢;have E:=It (n:=n) k [] σ h;have F:=Ei (n:=n) k [] _ E.wf;have L:=Ar (n:=n) (t:=[109,97,105,110]) F.wf Ao;unfold EZ at f ⊢;simp only at f ⊢;have M:=KQ f;have U:=((Eg (ts:=ts) (n:=n) k).2.2.2.1 _ L.wf).ok M.1;have N:=L.ok U;have h1:=F.ok N;have O:=SI k _ _ E.wf N Bg Bg;exact ⟨T9 k _ _ h h1 Bg,O.1,O.2,M.2.2⟩
end
mutual
def YG : ∀(t:Nd) (d m:Int),t.depth<=d->(t.size:Int)<=m->t.lim d m=(true,m-t.size)
 | .mk _ _ _ l,d,m,hd,hm=>by
  simp only [Nd.depth] at hd;simp only [Nd.size] at hm;have h0:0<=AV l:=Ma l;unfold Nd.lim;rw [At Aa,PB l (d-1) (m-1) Aa Aa];simp only [Nd.size];congr 1;omega
def PB : ∀(l:List Nd) (d m:Int),AV l<=d->(Ah l:Int)<=m->Ct l d m=(true,m-Ah l)
 | [],d,m,_,_=>by simp [Ct,Ah]
 | t::r,d,m,hd,hm=>by
  simp only [AV] at hd;simp only [Ah] at hm;have h1:=YG t d m Aa Aa;unfold Ct;rw [h1];simp only [if_true];rw [PB r d _ Aa Aa];simp only [Ah];congr 1;omega
def Ma : ∀l:List Nd,0<=AV l
 | []=>by simp [AV]
 | t::r=>by have:=Ma r;simp only [AV];omega
end
def bD {t:Nd} (f:t.depth<=80) (E:t.size<=2000) (h:t.isBlock=true):D7 t=true:=by
 unfold D7;rw [YG t 80 2000 f Aa,h];rfl
section
variable {ts:List Tok} {n:Int}
def QR (U:A2 ts) {σ:PS} (h:σ.at_<=ts.length) (E:(Bq ts n σ).2.err=0):(Bq ts n σ).1.ok=true:=by
 unfold Bq at E ⊢;split at E
 . rename_i f;rw [AH f];have F:=AO h f Ao;obtain ⟨-,L⟩:=Dg (AA F).wf E;simp [VD.ok,L]
 . rename_i f;rw [At f];split at E
   . rename_i f;rw [AH f];have F:=AO h f Ao;obtain ⟨-,L⟩:=Dg (AA F).wf E;simp [VD.ok,L]
   . rename_i f;rw [At f];split at E
     . rename_i f;rw [AH f];simp only at E ⊢;have F:=AO h f Ao;have h1:=AA F;have V:=AN (n:=n) h1.wf;have M:=Ar (n:=n) (t:=[91]) V.wf Ao;have N:=Gc (n:=n) (a:=1) (b:=16) M.wf;have O:=(Ar (n:=n) (t:=[93]) N.wf Ao).ok E;obtain ⟨-,L⟩:=Dg h1.wf (M.ok (N.ok O));obtain ⟨t,-,-,e,-,X,Y⟩:=NP U M.wf O;simp only [VD.ok,L,e];simp [X,Y]
     . exact absurd E E0
def NT {l:List VD} {v:VD} (h:Dd l=true) (f:v.ok=true):Dd (l++[v])=true:=by
 unfold Dd at *;simp [h,f]
def U5 (N:A2 ts) (k:Nat) : ∀(acc:List VD) (σ:PS),σ.at_<=ts.length->(Do ts n k acc σ).2.err=0->Dd acc=true->Dd (Do ts n k acc σ).1=true:=by
 induction k with
 | zero=>intro acc σ h f E;rw [Do];exact E
 | succ k O=>
  intro acc σ h f E;rw [Do] at f ⊢;split at f
  . rename_i F;rw [AH F];simp only at f ⊢;generalize U:(if acc.length=32 then BA σ (Ap ts σ).pos 5 else σ)=V at *;have L:Le ts σ V:=by
     rw [<-U];split
     . exact B7 h _ _
     . exact lx h
    have M:=CD (n:=n) L.wf;exact O _ _ M.wf f (NT E (QR N L.wf ((It k _ _ M.wf).ok f)))
  . rename_i F;rw [At F];exact E
def WH (N:A2 ts) (k:Nat) : ∀(acc:List VD) (σ:PS),σ.at_<=ts.length->(Bn ts n k acc σ).2.err=0->Dd acc=true->Dd (Bn ts n k acc σ).1=true:=by
 induction k with
 | zero=>intro acc σ h f E;rw [Bn];exact E
 | succ k O=>
  intro acc σ h f E;rw [Bn] at f ⊢;split at f
  . rename_i F;rw [AH F];simp only at f ⊢;have h1:=AA (AO h F Ao);generalize U:(if acc.length=8/\Cd ts (An σ)=true then BA (An σ) (Ap ts (An σ)).pos 5 else An σ)=σ1 at *;have L:Le ts (An σ) σ1:=by
     rw [<-U];split
     . exact B7 h1.wf _ _
     . exact lx h1.wf
    have M:=CD (n:=n) L.wf;exact O _ _ M.wf f (NT E (QR N L.wf ((Fz k _ _ M.wf).ok f)))
  . rename_i F;rw [At F];exact E
def NU (E:A2 ts) {k:Nat} {σ:PS} (h:σ.at_<=ts.length) (F:4*mS ts σ+8<=k) (f:(EZ ts n k σ).2.err=0):D7 (EZ ts n k σ).1=true:=by
 unfold EZ at f ⊢;simp only at f ⊢;obtain ⟨L,M,N⟩:=KQ f;obtain ⟨a,-,O⟩:=(NS E k).2.2.2.1 σ h F L;exact bD M N (O.valid _ rfl)
def U6 (N:A2 ts) {k:Nat} {σ:PS} (h:σ.at_<=ts.length) (hk:4*mS ts σ+8<=k) (E:(Dk ts n k σ).2.err=0):(Dk ts n k σ).1.ok=true:=by
 have f:=(L9 h E).1;rw [Gy] at E f ⊢;simp only at E f ⊢;have O:=Ar (n:=n) (t:=[112,114,111,99]) h Ao;have V:=AN (n:=n) O.wf;have F:=Ar (n:=n) (t:=[40]) V.wf Ao;have M:=Gx (n:=n) (k:=k) F.wf;have lb:=Ho (n:=n) (k:=k) M.wf;have m:=BJ (((O.trans V).trans F).trans M);have hb:=NU N M.wf Aa E;have L:=lb.ok E;have e3:=M.ok L;obtain ⟨-,hm⟩:=Dg O.wf (F.ok e3);have hp:Dd (GR ts n k (Az ts n (A4 ts n (Az ts n σ [112,114,111,99])).2 [40])).1=true:=by
  unfold GR at L ⊢;split at L
  . rename_i U;rw [AH U];rfl
  . rename_i U;rw [At U];simp only at L ⊢;have X:=CD (n:=n) F.wf;have Y:=Fz (n:=n) k [(Bq ts n (Az ts n (A4 ts n (Az ts n σ [112,114,111,99])).2 [40])).1] _ X.wf;have Z:=(Ar (n:=n) (t:=[41]) Y.wf Ao).ok L;refine WH N k _ _ X.wf Z ?_;unfold Dd;simp [QR N F.wf (Y.ok Z)]
 simp only [PD.ok,hm,hp,hb,Bool.and_true,Bool.true_and];exact decide_eq_true f
def YH (O:A2 ts) (k:Nat) : ∀(acc:List PD) (σ:PS),σ.at_<=ts.length->(σ.err=0->4*mS ts σ+9<=k)->(B0 ts n k acc σ).2.err=0->acc.all PD.ok=true->(B0 ts n k acc σ).1.all PD.ok=true:=by
 induction k with
 | zero=>intro acc σ h M f F;rw [B0];exact F
 | succ k U=>
  intro acc σ h M f F;rw [B0] at f ⊢;split at f
  . rename_i L;rw [AH L];simp only at f ⊢;have V:=(AO h L Ao).1;have X:=M V;by_cases c:acc.length=64
    . rw [AH c] at f;exfalso;have Y:=B7 (ts:=ts) h (Ap ts σ).pos 5;have E:=Eh (n:=n) (k:=k) Y.wf;exact absurd ((E.trans (Ei k _ _ E.wf)).ok f) (Ef Ao)
    . rw [At c] at f ⊢;have E:=Eh (n:=n) (k:=k) h;have N:=(Ei k (acc++[(Dk ts n k σ).1]) _ E.wf).ok f;have Z:=T8 E (KA h) N;refine U _ _ E.wf (fun _=>by omega) f ?_;rw [List.all_append,F];simp [U6 O h Aa N]
  . rename_i L;rw [At L];exact F
def Ua (L:A2 ts) {k:Nat} {σ:PS} (h:σ.at_<=ts.length) (hk:4*mS ts σ+9<=k) (f:(BD ts n k σ).2.err=0):(BD ts n k σ).1.ok=true:=by
 obtain ⟨M,N,-,-⟩:=JC h f;unfold BD at f M N ⊢;simp only at f M N ⊢;have E:=It (n:=n) k [] σ h;have O:=Ei (n:=n) k [] _ E.wf;have F:=Ar (n:=n) (t:=[109,97,105,110]) O.wf Ao;have V:=Ho (n:=n) (k:=k) F.wf;have X:=V.ok f;have U:=F.ok X;have Y:=O.ok U;have m1:=BJ E;have m3:=BJ ((E.trans O).trans F);have Z:=U5 L k [] σ h Y rfl;have hp:=YH L k [] _ E.wf (fun _=>by omega) U rfl;have hb:=NU L F.wf Aa f;simp only [PG.ok,Z,hp,hb,Bool.and_true];simp [M,N]
def U7 (n:Int) (σ:PS):Prop:=σ.err≠0->0<=σ.off/\σ.off<=n
def Hw {σ:PS} {off e:Int} (f:0<=off) (h1:off<=n) (i:U7 n σ):U7 n (BA σ off e):=by
 unfold BA;split
 . exact fun _=>⟨f,h1⟩
 . exact i
def bE (hn:0<=n) (hp : ∀t∈ts,0<=t.pos/\t.pos<=n):CloL ts n (U7 n) where
 next:=fun σ _ i=>i
 unexp:=fun σ h i=>by
  unfold Dl;split
  . rename_i hl;rw [List.getD_eq_getElem?_getD,jB hl];exact Hw (hp _ (jH hl)).1 (hp _ (jH hl)).2 i
  . exact Hw hn (Int.le_refl _) i
 full:=fun σ h i=>Hw (hp _ (GE h.2 h.1)).1 (hp _ (GE h.2 h.1)).2 i
 range:=fun σ h i=>Hw (hp _ (GE h.2 h.1)).1 (hp _ (GE h.2 h.1)).2 i
 lim:=fun σ x τ h i j=>by
  have hq:0<=(Ap ts σ).pos/\(Ap ts σ).pos<=n:=by
   by_cases c:σ.err≠0\/σ.at_=ts.length
   . have:Ap ts σ=Tok.zero:=by unfold Ap;rw [AH c]
     rw [this];exact ⟨Ao,hn⟩
   . exact hp _ (GE Aa Aa)
  unfold D5;split
  . exact j
  . split
    . exact Hw hq.1 hq.2 j
    . split
      . exact Hw hq.1 hq.2 j
      . exact j
end
def PE (s:lB) : ∀(k p:Nat) (acc:List Tok) (q:Nat),(CX k s p acc).2=some q->q<=s.length
 | 0,p,acc,q,h=>by rw [CX] at h;cases h
 | k+1,p,acc,q,h=>by
  rw [CX] at h;split at h
  . rename_i f;split at h
    . cases h;omega
    . exact PE s k _ _ q h
  . cases h
def WI (s:lB):U7 s.length (Cq s).2:=by
 intro _;show 0<=(GZ s).2.1/\(GZ s).2.1<=(s.length:Int);unfold GZ;split
 . show (0:Int)<=0/\(0:Int)<=(s.length:Int);omega
 . split
   . show (0:Int)<=0/\(0:Int)<=(s.length:Int);omega
   . rename_i l p f;have:=PE s _ _ _ p (by rw [f]);show (0:Int)<=(p:Int)/\(p:Int)<=(s.length:Int);omega
def WJ (s:lB) : ∀t∈(Cq s).1,0<=t.pos/\t.pos<=s.length:=fun t f=>(KC s t f).pos
def Mn (s:lB):((A9 s).2.2=0->(A9 s).1.ok=true/\(A9 s).2.1=0)/\((A9 s).2.2≠0->(A9 s).1=⟨[],[],BP⟩/\0<=(A9 s).2.1/\(A9 s).2.1<=s.length):=by
 have F:=Hp s;have L:mS (Cq s).1 (Cq s).2<=(Cq s).1.length:=by unfold mS;split<;>omega
 have f:(Cq s).2.at_<=(Cq s).1.length:=jN _;unfold A9;simp only;split
 . rename_i h;refine ⟨fun e=>absurd e h,fun _=>⟨rfl,?_⟩⟩;have C:=bE (ts:=(Cq s).1) (n:=s.length) Aa (WJ s);have E:=RU (n:=s.length) (k:=Gm s) f;exact C.toClo.finish E.wf (C.program f (WI s)) h
 . rename_i h;refine ⟨fun _=>⟨?_,rfl⟩,fun e=>absurd rfl e⟩;exact Ua (FA s) f (by unfold Gm;omega) (PA (by simpa using h)).1
def ES {m:lB} (h:AU m=true):m.length<=16:=by
 simp only [AU,jA,decide_eq_true_eq] at h;exact h.1.1.1.2
def G.wf {f:Nt} {a:CS} {x:Nd} (h:G f a x):match f with
 | .cl _ y=>y.wf->x.wf
 | _=>x.wf:=by
 induction h with
 | ex _ _ E i2=>exact i2 E
 | cl0=>exact fun h=>h
 | @cl1 lv op t a b x y z h1 F N O U i3 i5=>
  intro L;obtain ⟨-,V,M,-⟩:=Gt h1;refine i5 ?_;exact ⟨Aa,Aa,Aa,Aa,Bg,Bg,L,i3,trivial⟩
 | neg _ i=>exact ⟨Aa,Aa,Aa,Aa,Bg,Bg,i,trivial⟩
 | not _ i=>exact ⟨Aa,Aa,Aa,Aa,Bg,Bg,i,trivial⟩
 | num h1 F=>exact ⟨Aa,Aa,Aa,Aa,Bg,Bg,trivial⟩
 | top h=>have:=ES h;exact ⟨Aa,Aa,Aa,Aa,Aa,Bg,trivial⟩
 | size h=>have:=ES h;exact ⟨Aa,Aa,Aa,Aa,Aa,Bg,trivial⟩
 | par _ i=>exact i
 | place _ i=>exact i
 | var h=>have:=ES h;exact ⟨Aa,Aa,Aa,Aa,Aa,Bg,trivial⟩
 | item h _ i=>have:=ES h;exact ⟨Aa,Aa,Aa,Aa,Aa,Bg,i,trivial⟩
def Ub (l:CS) (h : ∀v∈l,AU v=true):Be (l.map Jt):=by
 induction l with
 | nil=>trivial
 | cons v r f=>
  have:=ES (h v Bg);exact ⟨⟨Aa,Aa,Aa,Aa,Aa,Bg,trivial⟩,f (fun u E=>h u (by simp [E]))⟩
def PF (t:lB):0<=CC t/\CC t<=255:=by
 unfold CC;split
 . decide
 split
 . decide
 split
 . decide
 split
 . decide
 . decide
def GS.wf {U:NtS} {a:CS} {l:List Nd} (h:GS U a l) (F:a.length<=9223372036854775807):match U with
 | .ls=>Be l/\l.length<=a.length
 | _=>Be l:=by
 induction h with
 | stack h1 f E=>
  have:=ES E;have v:=f.wf;simp only [Iv,jR,kf,jU,or_false] at h1;rcases h1 with ⟨-,rfl⟩|⟨-,rfl⟩<;>exact ⟨⟨Aa,Aa,Aa,Aa,Aa,Bg,v,trivial⟩,trivial⟩
 | tape h1 f=>
  have v:=f.wf;simp only [Ja,jR,kf,jU,or_false] at h1;rcases h1 with ⟨-,rfl⟩|⟨-,rfl⟩|⟨-,rfl⟩|⟨-,rfl⟩<;>exact ⟨⟨Aa,Aa,Aa,Aa,Bg,Bg,v,trivial⟩,trivial⟩
 | call0 h1 f=>
  have:=ES f;simp only [FC,jR,kf,jU,or_false] at h1;rcases h1 with ⟨-,rfl⟩|⟨-,rfl⟩<;>exact ⟨⟨Aa,Aa,Aa,Aa,Aa,Bg,trivial⟩,trivial⟩
 | @call1 kw m u kd l h1 f E L V=>
  have:=ES f;have v:=Ub (u::l) (fun v M=>by rcases jR.1 M with rfl|M;exact E;exact L v M);have N:((u::l).map Jt).length<=9223372036854775807:=by simp only [List.length_map,jz];omega
  simp only [FC,jR,kf,jU,or_false] at h1;rcases h1 with ⟨-,rfl⟩|⟨-,rfl⟩<;>exact ⟨⟨Aa,Aa,Aa,Aa,Aa,N,v⟩,trivial⟩
 | branch h1 f E L V i3 i4=>
  simp only [jz,jy] at F;have v2:=f.wf;have v5:=V.wf;have v3:=(i3 Aa).1;have v4:=(i4 Aa).1;simp only [EK,jR,kf,jU,or_false] at h1;rcases h1 with ⟨-,rfl,-⟩|⟨-,rfl,-⟩<;>exact ⟨⟨Aa,Aa,Aa,Aa,Bg,Bg,v2,v3,v4,v5,trivial⟩,trivial⟩
 | lstack h1 f i2=>
  simp only [jz] at F;have:=ES h1;exact ⟨⟨Aa,Aa,Aa,Aa,Aa,Bg,(i2 Aa).1,trivial⟩,trivial⟩
 | local_ h1 f E L i3=>
  simp only [jz,jy] at F;have:=ES h1;exact ⟨⟨Aa,Aa,Aa,Aa,Aa,Bg,f.wf,(i3 Aa).1,L.wf,trivial⟩,trivial⟩
 | @upd t a b x y h1 f E=>exact ⟨⟨(PF t).1,(PF t).2,Aa,Aa,Bg,Bg,h1.wf,E.wf,trivial⟩,trivial⟩
 | swap h1 f=>exact ⟨⟨Aa,Aa,Aa,Aa,Bg,Bg,h1.wf,f.wf,trivial⟩,trivial⟩
 | bl h1 O=>
  simp only [jz,jy,jD] at F;obtain ⟨v,N⟩:=O Aa;exact ⟨⟨Aa,Aa,Aa,Aa,Bg,Aa,v⟩,trivial⟩
 | ls0=>exact ⟨trivial,jL _⟩
 | ls1 h1 f O i2=>
  simp only [jz,jy] at F;obtain ⟨v,N⟩:=i2 Aa;refine ⟨⟨(O Aa).1,v⟩,?_⟩;simp only [jz,jy];omega
def VD.wf_ok {v:VD} (h:v.ok=true):v.wf:=by
 simp only [VD.ok,jA] at h;obtain ⟨h1,f⟩:=h;have:=ES h1;split at f
 . rename_i E;have:v.len=0:=by simpa using f
   exact ⟨Aa,Aa,Aa,Aa,Aa⟩
 . split at f
   . simp only [jA,decide_eq_true_eq] at f;exact ⟨Aa,Aa,Aa,Aa,Aa⟩
   . cases f
def PH {l:List VD} (h:Dd l=true) : ∀v∈l,v.wf:=fun v f=>VD.wf_ok (kG.1 h v f)
section
variable {ts:List Tok} {n:Int}
def bF {σ σ':PS} {a:CS} (h:Seg ts σ σ' a):a.length<=ts.length:=by
 have h1:=Jp (ts:=ts) σ;have f:rem ts σ=a++rem ts σ':=h;rw [f,jy] at h1;omega
def U9 (E:A2 ts) (O:ts.length<=1000000) {k:Nat} {σ:PS} (h:σ.at_<=ts.length) (F:4*mS ts σ+8<=k) (f:(EZ ts n k σ).2.err=0):(EZ ts n k σ).1.wf:=by
 unfold EZ at f ⊢;simp only at f ⊢;obtain ⟨L,-,-⟩:=KQ f;obtain ⟨a,M,N⟩:=(NS E k).2.2.2.1 σ h F L;have:=bF M;exact (N.wf Aa).1
def bG (F:A2 ts) (U:ts.length<=1000000) {k:Nat} {σ:PS} (h:σ.at_<=ts.length) (V:4*mS ts σ+8<=k) (E:(Dk ts n k σ).2.err=0):(Dk ts n k σ).1.wf:=by
 have f:=U6 F h V E;simp only [PD.ok,jA,decide_eq_true_eq] at f;have:=ES f.1.1.1;refine ⟨Aa,Aa,PH f.1.2,?_⟩;rw [Gy] at E ⊢;simp only at E ⊢;have L:=Ar (n:=n) (t:=[112,114,111,99]) h Ao;have M:=AN (n:=n) L.wf;have N:=Ar (n:=n) (t:=[40]) M.wf Ao;have O:=Gx (n:=n) (k:=k) N.wf;have m:=BJ (((L.trans M).trans N).trans O);exact U9 F U O.wf Aa E
def YI (U:A2 ts) (V:ts.length<=1000000) (k:Nat) : ∀(acc:List PD) (σ:PS),σ.at_<=ts.length->(σ.err=0->4*mS ts σ+9<=k)->(B0 ts n k acc σ).2.err=0->(∀p∈acc,p.wf) -> ∀p∈(B0 ts n k acc σ).1,p.wf:=by
 induction k with
 | zero=>intro acc σ h N f L;rw [B0];exact L
 | succ k X=>
  intro acc σ h N f L;rw [B0] at f ⊢;split at f
  . rename_i M;rw [AH M];simp only at f ⊢;have Y:=(AO h M Ao).1;have Z:=N Y;by_cases c:acc.length=64
    . rw [AH c] at f;exfalso;have l0:=B7 (ts:=ts) h (Ap ts σ).pos 5;have E:=Eh (n:=n) (k:=k) l0.wf;exact absurd ((E.trans (Ei k _ _ E.wf)).ok f) (Ef Ao)
    . rw [At c] at f ⊢;have E:=Eh (n:=n) (k:=k) h;have O:=(Ei k (acc++[(Dk ts n k σ).1]) _ E.wf).ok f;have m1:=T8 E (KA h) O;refine X _ _ E.wf (fun _=>by omega) f (fun p F=>?_);rcases List.mem_append.1 F with F|F
      . exact L p F
      . have:p=(Dk ts n k σ).1:=by simpa using F
        rw [this];exact bG U V h Aa O
  . rename_i M;rw [At M];exact L
def Uc (L:A2 ts) (N:ts.length<=1000000) {k:Nat} {σ:PS} (h:σ.at_<=ts.length) (hk:4*mS ts σ+9<=k) (f:(BD ts n k σ).2.err=0):(BD ts n k σ).1.wf:=by
 obtain ⟨O,U,-,-⟩:=JC h f;unfold BD at f O U ⊢;simp only at f O U ⊢;have E:=It (n:=n) k [] σ h;have M:=Ei (n:=n) k [] _ E.wf;have F:=Ar (n:=n) (t:=[109,97,105,110]) M.wf Ao;have X:=Ho (n:=n) (k:=k) F.wf;have Y:=X.ok f;have V:=F.ok Y;have Z:=M.ok V;have m1:=BJ E;have m3:=BJ ((E.trans M).trans F);exact ⟨by simp only;omega,by simp only;omega,PH (U5 L k [] σ h Z rfl),YI L N k [] _ E.wf (fun _=>by omega) V Bg,U9 L N F.wf Aa f⟩
end
def IF (s:lB) (F:s.length<=1000000) (f:(A9 s).2.2=0):(A9 s).1.wf:=by
 have L:=Hp s;have M:mS (Cq s).1 (Cq s).2<=(Cq s).1.length:=by unfold mS;split<;>omega
 have E:(Cq s).2.at_<=(Cq s).1.length:=jN _;unfold A9 at f ⊢;simp only at f ⊢;split at f
 . rename_i h;exact absurd f h
 . rename_i h;rw [At h];exact Uc (FA s) Aa E (by unfold Gm;omega) (PA (by simpa using h)).1
def YJ (ws:List lB) (g:PG):EX:=⟨ws.getD 1 [],DA ws 0,DA ws 1,⟨DA ws 2,DA ws 3,DA ws 4⟩,g⟩
noncomputable def Hx (s:lB):Except Int (EX×lB):=
 open Classical in
 if (E5 s).2.2=false then .error 4
 else if ¬Pq (B9 (E5 s).1) then .error 3
 else if (E2 (E5 s).2.1 (DA (B9 (E5 s).1) 5).toNat).2.2=false then .error 4
 else if ¬(A9 (E2 (E5 s).2.1 (DA (B9 (E5 s).1) 5).toNat).1).2.2=0 then .error 3
 else if ¬(A9 (E2 (E5 s).2.1 (DA (B9 (E5 s).1) 5).toNat).1).1.text=(E2 (E5 s).2.1 (DA (B9 (E5 s).1) 5).toNat).1 then .error 3
 else if ¬(YJ (B9 (E5 s).1) (A9 (E2 (E5 s).2.1 (DA (B9 (E5 s).1) 5).toNat).1).1).valid then .error 3
 else .ok (YJ (B9 (E5 s).1) (A9 (E2 (E5 s).2.1 (DA (B9 (E5 s).1) 5).toNat).1).1,(E2 (E5 s).2.1 (DA (B9 (E5 s).1) 5).toNat).2.1)
def gV (q:Except Int (EX×lB)) (w:wD):Ending->wD->Prop:=fun e w'=>match q with
 | .ok (x,rest)=> ∃va vc pa pc ma mc,e = .returned (.tuple #[.agg (x.cells va vc pa pc ma mc).toArray,str rest,.int .i64 0])/\x.sits (w.heap.size <= ·) w' va pa ma vc/\Ext w w'
 | .error k=>e = .returned (.tuple #[.agg zeroEX.cells0.toArray,str [],.int .i64 k])/\Ext w w'
def YK (s:lB):(E5 s).1.length<=s.length/\(E5 s).2.1.length<=s.length:=by
 unfold E5 Lib.cut;split
 . simp only [kn,List.length_drop];omega
 . simp
def Va (s:lB) (n:Nat):(E2 s n).1.length<=s.length/\(E2 s n).2.1.length<=s.length:=by
 unfold E2;split
 . simp
 . simp only [kn,List.length_drop];omega
def fM {g:PG} (h:g.ok=true):g.vars.length<=32:=by
 unfold PG.ok at h;simp only [jA,decide_eq_true_eq] at h;exact h.1.1.1.1
set_option maxHeartbeats 8000000 in
def YL (s:lB) (hs:s.length<=100000) (w:wD) (F:Errs2 w) (E:TabsF w) :
 Calls prog 37 #[str s] w (gV (Hx s) w):=by
 have X:=kQ w;have b3:=E.g;have HC:=jC (fun w1 h=>gT s Aa w1 h);have am:=YK s;obtain ⟨q,U⟩ : ∃q,q=Hx s:=⟨_,rfl⟩
 rw [<-U];unfold Hx at U;generalize E5 s=ct at *;obtain ⟨c1,c2,c3⟩:=ct;simp only at am U HC;refine Ad func37 ntmps37 rfl rfl ?_;refine cS (eA [_,_,_,_,_,_,_,_,_,_,_,_] ?_);intro b1 w2 O x6 p7 z8;revert F E X;refine eE x6 ?_;intro F E X;refine eK ?_;refine cC rfl (HC.out _ Af) ?_;rintro _ b4 ⟨⟨⟩,x9⟩;revert O F E X;refine eY x9 ?_;intro b5 O F E X;refine C1 Mv (C1 Px (C1 Px (C1 Px (C1 Pa (C1 Pa (C1 Pa (cT (Al ?_))))))));cases c3 with
 | false=>
  rw [AH rfl] at U;subst U;refine eK ?_;refine C1 (xB [_,_,_,_,_,_,_,_,_,_,_,_]) (eS [_,_,_,_,_,_,_,_,_,_,_,_] O ?_);intro b6 an ao b7;revert F E X;refine eF ao ?_;intro F E X;refine eK ?_;refine Dc rfl Ac rfl rfl rfl an rfl rfl rfl ?_;exact ⟨rfl,X⟩
 | true=>
 rw [At Ao] at U;have HH:=jC (fun w1 h1 h2=>QO c1 Aa w1 h1 h2);have ab:=T4 ((B9 c1).getD (3+2*5) []);change 0<=DA (B9 c1) 5/\DA (B9 c1) 5<=1000000000 at ab;have aa : ∀i,((B9 c1).getD i []).length<=c1.length:=fun i=>U2 i
 generalize B9 c1=Y at *;rcases (Decidable.em (Pq Y)).symm with hk|hk
 . rw [AH hk] at U;rw [show SF Y = .tuple #[.agg #[str [],.int .i64 0,.int .i64 0,.int .i64 0,.int .i64 0,.int .i64 0,.slice none 0 0,.slice none 0 0,.int .u8 0,.int .i64 0,str [],.slice none 0 0],.int .i64 0,.bool false] from At hk] at HH;subst U;clear aa ab;refine eK ?_;refine cC rfl (HH.out _ Af Af) ?_;rintro _ b8 ⟨⟨⟩,ap⟩;revert O F E X;refine eY ap ?_;intro b9 O F E X;refine eK ?_;refine xA [_,_,_,_,_,_,_,_,_,_,_,_] ?_;intro ca cb aq;refine eI [_,_,_,_,_,_,_,_,_,_,_,_] aq ?_;intro cc ag ar bd be;revert O F E X;refine eE ar ?_;intro O F E X;refine eK ?_;refine C1 (xB [_,_,_,_,_,_,_,_,_,_,_,_]) (eS [_,_,_,_,_,_,_,_,_,_,_,_] O ?_);intro bf ah ai bg;revert ag F E X;refine eF ai ?_;intro ag F E X;refine eK ?_;refine Dc rfl Ac rfl rfl rfl ah rfl rfl rfl ?_;exact ⟨rfl,X⟩
 rw [At (fun h=>h hk)] at U;have cd:=aa 1;clear aa;have hT:SF Y = .tuple #[.agg #[str (Y.getD 1 []),.int .i64 (DA Y 0),.int .i64 (DA Y 1),.int .i64 (DA Y 2),.int .i64 (DA Y 3),.int .i64 (DA Y 4),.slice none 0 0,.slice none 0 0,.int .u8 0,.int .i64 0,str [],.slice none 0 0],.int .i64 (DA Y 5),.bool true]:=AH hk;rw [hT] at HH;obtain ⟨n,hn⟩:=Int.eq_ofNat_of_zero_le ab.1;rw [hn] at U ab HH;rw [Int.toNat_natCast] at U;have HK:=jC (fun w1=>fD c2 Aa n Aa w1);have au:=Va c2 n;have hb:0<=DA Y 0/\0<=DA Y 1:=⟨(T4 _).1,(T4 _).1⟩
 unfold YJ at U;clear hT hk hn;generalize Y.getD 1 []=nm at *;generalize DA Y 0=po at *;generalize DA Y 1=fu at *;generalize DA Y 2=bv at *;generalize DA Y 3=bl at *;generalize DA Y 4=bi at *;generalize E2 c2 n=tk at *;obtain ⟨tx,rest,k3⟩:=tk;simp only at au U HK;refine eK ?_;refine cC rfl (HH.out _ Af Af) ?_;rintro _ ce ⟨⟨⟩,av⟩;revert O F E X;refine eY av ?_;intro cf O F E X;refine eK ?_;refine xA [_,_,_,_,_,_,_,_,_,_,_,_] ?_;intro cg ch aw;refine eI [_,_,_,_,_,_,_,_,_,_,_,_] aw ?_;intro ci N ax bh bj;revert O F E X;refine eE ax ?_;intro O F E X;refine eK ?_;refine cC rfl (HK.out _) ?_;rintro _ bk ⟨⟨⟩,aj⟩;revert N O F E X;refine eY aj ?_;intro bm N O F E X;refine C1 Mv (C1 Px (C1 Px (C1 Px (C1 Pa (C1 Pa (C1 Pa (cT (Al ?_))))))));cases k3 with
 | false=>
  rw [AH rfl] at U;subst U;refine eK ?_;refine C1 (xB [_,_,_,_,_,_,_,_,_,_,_,_]) (eS [_,_,_,_,_,_,_,_,_,_,_,_] O ?_);intro cj ay az ck;revert N F E X;refine eF az ?_;intro N F E X;refine eK ?_;refine Dc rfl Ac rfl rfl rfl ay rfl rfl rfl ?_;exact ⟨rfl,X⟩
 | true=>
 rw [At Ao] at U;have HP:=jC (fun w1 (h1:TabsF w1) (h2:Errs2 w1)=>TM tx w1 Aa ⟨h1.t.sym⟩ h2.r);have ad:=(Mn tx).1;have ae:=IF tx Aa;generalize A9 tx=pr at *;obtain ⟨g,off,er⟩:=pr;simp only at U ad ae;refine eK ?_;refine eQ rfl (HP.out _ Af Af) ?_;rintro _ bn ⟨bo,⟨bp,⟨bq,⟨br,⟨bs,⟨bt,⟨⟨⟩,⟨L,⟨M,⟨cl,ak⟩⟩⟩⟩⟩⟩⟩⟩⟩⟩;revert N O F E X;refine eY ak ?_;intro bu N O F E X;refine eK ?_;refine xA [_,_,_,_,_,_] ?_;intro bw bx V;refine Gi [_,_,_,_,_,_] Ac rfl rfl rfl rfl rfl rfl V rfl ?_;intro bz V;have f:=V.blk;dsimp only at f;have al:=V.ext;have b0:=V.pos;have b2:=V.size;revert L M N O F E X;refine eE al ?_;intro L M N O F E X;refine C1 Pa (C1 Pa (cT (Al ?_)));rcases (Decidable.em (er=0)).symm with he|he
 . rw [AH he] at U;subst U;refine eK ?_;refine C1 (xB [_,_,_,_,_,_,_,_,_,_,_,_]) (eS [_,_,_,_,_,_,_,_,_,_,_,_] O ?_);intro cm a0 a1 cn;revert f L M N F E X;refine eF a1 ?_;intro f L M N F E X;refine eK ?_;refine Dc rfl Ac rfl rfl rfl a0 rfl rfl rfl ?_;exact ⟨rfl,X⟩
 subst he;rw [At (fun h=>h rfl)] at U;have ac:=(ad rfl).1;have af:=ae rfl;clear ad ae;have HR:=jC (fun S va vc pa pc ma mc w1 (h1:TabsF w1) h2=>Po g S va vc pa pc ma mc w1 af h1.t h1.g h2);rw [AH ac,AH ac] at HR;have co:=fM ac;have HV:=jC (fun S va vc pa pc ma mc w1 h=>Ll ⟨nm,po,fu,⟨bv,bl,bi⟩,g⟩ ⟨by simp only;omega,af,by simp only;omega⟩ S va vc pa pc ma mc w1 h);clear ac af;generalize a2:g.text=tg at *;refine cS (C1 Mv (C1 V2 (cT (FN rfl (not_not_intro rfl) ?_))));refine eK ?_;refine cC rfl (HR.out _ _ _ _ _ _ _ _ Af Af) ?_;rintro _ cp ⟨⟨⟩,a3⟩;revert f N O F E X L M;refine eY a3 ?_;intro cq f N O F E X L M;refine C1 Mv (C1 Px (C1 Px (C1 Pa (C1 Pa (cT (Al ?_))))));rcases (Decidable.em (tg=tx)).symm with hx|hx
 . rw [AH hx] at U;subst U;refine eK ?_;refine C1 (xB [_,_,_,_,_,_,_,_,_,_,_,_]) (eS [_,_,_,_,_,_,_,_,_,_,_,_] O ?_);intro cr a4 a5 cu;revert f N F E X L M;refine eF a5 ?_;intro f N F E X L M;refine eK ?_;refine Dc rfl Ac rfl rfl rfl a4 rfl rfl rfl ?_;exact ⟨rfl,X⟩
 rw [At (fun h=>h hx)] at U;subst hx;clear a2;unfold lJ at HV;simp only at HV
 focus
  refine cS (C1 Mv (C1 V2 (C1 Mv (Kb (C1 Mv (Kb (C1 Mv (Kb (C1 V9 (C1 Y7 (cT ?_)))))))))));refine FN rfl (not_not_intro rfl) ?_;refine eK ?_;refine eV [_,_,_,_,_,_] [_,_,_,_,_,_,_,_,_,_,_,_] N ?_;intro cv Z a6 cw;revert f O F E X L M;refine eF a6 ?_;intro f O F E X L M;refine eK ?_;refine CP [_,_,_,_,_,_,_,_,_,_,_,_] Ac rfl rfl rfl Z rfl rfl rfl (cC rfl (HV.out _ _ _ _ _ _ _ _ ⟨Af,Af,Af⟩) ?_);rintro _ cx ⟨⟨⟩,a7⟩;revert Z f O F E X L M;refine eY a7 ?_;intro cy Z f O F E X L M;refine C1 Pt (cT ?_);refine J7 rfl (fun a8=>?_) (fun a8=>?_);rotate_left;refine Aw (Ag ?_);rotate_left
 . rw [AH (of_decide_eq_false Af)] at U;subst U;refine cS (C1 (xB [_,_,_,_,_,_,_,_,_,_,_,_]) (eS [_,_,_,_,_,_,_,_,_,_,_,_] O ?_));intro cz a9 ba c0;revert Z f F E X L M;refine eF ba ?_;intro Z f F E X L M;refine eK ?_;refine Dc rfl Ac rfl rfl rfl a9 rfl rfl rfl ?_;exact ⟨rfl,X⟩
 . rw [At (fun h=>h (of_decide_eq_true Af))] at U;subst U;refine cS (CP [_,_,_,_,_,_,_,_,_,_,_,_] Ac rfl rfl rfl Z rfl rfl rfl (C1 Mv (eS [_,_,_,_,_,_,_,_,_,_,_,_] O ?_)));intro c4 bb bc c5;revert Z f F E X L M;refine eF bc ?_;intro Z f F E X L M;refine eK ?_;refine Dc rfl Ac rfl rfl rfl bb rfl rfl rfl ?_;exact ⟨_,_,_,_,_,_,rfl,⟨PG.sits.wide Af (fun b h=>by omega),PDsC.wide Af (fun b h=>by omega),Af⟩,X⟩
def OwnL.exs {w:wD} {B e:Nat} {a:oA} {len cap:Nat} {xs:List EX} {S:nP} (h:OwnL F7 w B e (.slice a len cap) xs) (E : ∀b,B<=b->S b):EXs S w xs a:=by
 by_cases F:xs=[]
 . exact jF F
 . obtain ⟨g,L,M,N,f⟩:=h.rows F;simp only [j8] at M;obtain ⟨rfl,-,-⟩:=M;refine jG ⟨g,0,rfl,E g N,fun i x O=>?_⟩;obtain ⟨cs,U,V,X,Y,Z,ma,mc,rfl,h2⟩:=f i x O;exact ⟨V,X,Y,Z,ma,mc,by simpa [F7] using U,h2.wide (fun b hb=>E b hb.1)⟩
def ReadOk (x:EX) (rest:lB) (w:wD):Ending->wD->Prop:=fun e w'=> ∃va vc pa pc ma mc,e = .returned (.tuple #[.agg #[str x.name,.int .i64 x.points,.int .i64 x.fuel,.int .i64 x.box.v,.int .i64 x.box.l,.int .i64 x.box.i,.slice va x.g.vars.length vc,.slice pa x.g.procs.length pc,.int .u8 x.g.main.kind,.int .i64 x.g.main.num,str x.g.main.name,.slice ma x.g.main.kids.length mc],str rest,.int .i64 0])/\x.sits (w.heap.size <= ·) w' va pa ma vc/\Ext w w'
def ReadOk.ret {x:EX} {rest:lB} {w w':wD} {e:Ending} (h:ReadOk x rest w e w') : ∃v,e = .returned v:=by
 obtain ⟨_,_,_,_,_,_,h,-⟩:=h;exact ⟨_,h⟩
def bH {s:lB} {x:EX} {rest:lB} (h:Hx s = .ok (x,rest)) (f:s.length<=100000) (w:wD) (E:Errs2 w) (F:TabsF w):Calls prog 37 #[str s] w (ReadOk x rest w):=by
 have:=YL s f w E F;rw [h] at this;exact this
def YM {s:lB} {k:Int} (h:Hx s = .error k) (f:s.length<=100000) (w:wD) (E:Errs2 w) (F:TabsF w):Calls prog 37 #[str s] w fun e w'=>e = .returned (.tuple #[.agg #[str [],.int .i64 0,.int .i64 0,.int .i64 0,.int .i64 0,.int .i64 0,.slice none 0 0,.slice none 0 0,.int .u8 0,.int .i64 0,str [],.slice none 0 0],str [],.int .i64 k])/\Ext w w':=by
 have:=YL s f w E F;rw [h] at this;exact this
def WK {s:lB} {k:Int} (h:Hx s = .error k):k=3\/k=4:=by
 unfold Hx at h;split at h
 . injection h with h;omega
 split at h
 . injection h with h;omega
 split at h
 . injection h with h;omega
 split at h
 . injection h with h;omega
 split at h
 . injection h with h;omega
 split at h
 . injection h with h;omega
 . cases h
def Ud {s:lB} {x:EX} {rest:lB} (h:Hx s = .ok (x,rest)):rest.length<=s.length/\x.valid:=by
 unfold Hx at h;split at h
 . cases h
 split at h
 . cases h
 split at h
 . cases h
 split at h
 . cases h
 split at h
 . cases h
 split at h
 . cases h
 rename_i f;injection h with h
 injection h with h1 h2
 subst h1 h2;have:=Va (E5 s).2.1 (DA (B9 (E5 s).1) 5).toNat;have:=YK s;exact ⟨Aa,Classical.not_not.1 f⟩
noncomputable def DJ:Nat->List EX->Nat->lB->List EX×Int×Int
 | 0,_,_,_=>([],0,0)
 | n+1,acc,line,s=>
  if s=[] then (acc,0,0) else if acc.length=100 then ([],line,5) else match Hx s with
  | .error k=>([],line,k)
  | .ok (x,rest)=>if Ez acc x.name=true then ([],line,22) else DJ n (acc++[x]) (line+Lib.countByte (s.take (s.length-rest.length)) 10) rest
noncomputable def Iw (s:lB):List EX×Int×Int:=if 65536<s.length then ([],0,5) else DJ 101 [] 1 s
def ParE (q:List EX×Int×Int) (w:wD):Ending->wD->Prop:=fun e w'=> ∃a c,e = .returned (.tuple #[.slice a q.1.length c,.int .i64 q.2.1,.int .i64 q.2.2])/\q.1.length<=c/\EXs (w.heap.size <= ·) w' q.1 a/\Ext w w'
def ParE.ret {q:List EX×Int×Int} {w w':wD} {e:Ending} (h:ParE q w e w') : ∃v,e = .returned v:=by
 obtain ⟨_,_,h,-⟩:=h;exact ⟨_,h⟩
set_option maxHeartbeats 8000000 in
def Ls (s:lB) (hs:s.length<=9223372036854775807) (w:wD) (L:Errs2 w) (F:TabsF w) :
 Calls prog 18 #[str s] w (ParE (Iw s) w):=by
 have X:=kQ w;have bi:=F.g;unfold Iw;rcases (Decidable.em (65536<s.length)) with hl|hl
 . rw [AH hl];refine Ad func18 ntmps18 rfl rfl ?_;refine eK ?_;refine FF rfl rfl rfl rfl ?_;exact ⟨_,_,rfl,jL _,jF rfl,X⟩
 rw [At hl];refine Ad func18 ntmps18 rfl rfl ?_;refine cS (C1 Pa (C1 Pa (C1 Pa (cT (Al (cS (C1 Mv (C1 Py (C1 V5 (cT (II ?_)))))))))));refine Aw (Ag (cS (C1 Pa (cN (C1 Pa (cT ?_))))));refine Al (Av ?_);refine AK (ι:=lB×List EX×oA×Nat×Nat) (fun x=>[(0,str x.1),(5,.slice x.2.2.1 x.2.1.length x.2.2.2.1),(6,.int .i64 x.2.2.2.2)])
  (fun x w'=>x.2.1.length<=100/\x.2.2.2.2+x.1.length<=65537/\DJ 101 [] 1 s=DJ (101-x.2.1.length) x.2.1 x.2.2.2.2 x.1/\OwnL F7 w' w.heap.size 36 (.slice x.2.2.1 x.2.1.length x.2.2.2.1) x.2.1/\Errs2 w'/\TabsF w'/\Ext w w')
  (fun x=>100-x.2.1.length) (s,[],none,0,1) sB ⟨by simp only [jD];omega,by simp only;omega,rfl,OwnL.nil,L,F,X⟩ ?_
 clear L F X;rintro ⟨t,acc,a,cap,line⟩ U ⟨ag,ah,he,f,L,F,X⟩;simp only at ag ah he f;rw [he];clear he hl hs;generalize s=s0 at *;have hz:=X.size;refine CW.sub (m:=[(0,str t),(5,.slice a acc.length cap),(6,.int .i64 line)]) ?_ sB;obtain ⟨m,hm⟩ : ∃m,101-acc.length=m+1:=⟨100-acc.length,Aa⟩;rw [hm];by_cases Y:t=[]
 . rw [show DJ (m+1) acc line t=(acc,0,0) from by rw [DJ,AH Y]];subst Y;refine eK ?_;refine FF rfl rfl rfl rfl ?_;exact ⟨_,_,rfl,OwnL.cap f,OwnL.exs f (fun b h=>h),X⟩
 by_cases h1:acc.length=100
 . rw [show DJ (m+1) acc line t=([],(line:Int),5) from by rw [DJ,At Y,AH h1]];refine eK ?_;refine FF rfl rfl rfl rfl ?_;exact ⟨_,_,rfl,jN _,jF rfl,X⟩
 cases hr:Hx t with
 | error k=>
  rw [show DJ (m+1) acc line t=([],(line:Int),k) from by rw [DJ,At Y,At h1,hr]];have HR:=jC (fun U h1 h2=>YM hr Aa U h1 h2);have hk:=WK hr;clear hr;refine eK ?_;refine cC rfl (HR.out _ Af Af) ?_;rintro _ bj ⟨⟨⟩,ai⟩;revert f L F X;refine eY ai ?_;intro bk f L F X;refine eK ?_;refine xA [_,_,_,_,_,_,_,_,_,_,_,_] ?_;intro bm bn aj;refine eI [_,_,_,_,_,_,_,_,_,_,_,_] aj ?_;intro bo bp ak aq ar;revert f L F X;refine eE ak ?_;intro f L F X;refine eK ?_;refine FF rfl rfl rfl rfl ?_;exact ⟨_,_,rfl,jN _,jF rfl,X⟩
 | ok q=>
  obtain ⟨x,rest⟩:=q;have HR:=jC (fun U h1 h2=>bH hr Aa U h1 h2);have bq:=(Ud hr).1;have HH:=jC (fun U h=>dC acc Aa x.name (fun b=>w.heap.size<=b) a cap U h);have al:Ez acc x.name=true->DJ (m+1) acc line t=([],(line:Int),22):=fun hh=>by rw [DJ,At Y,At h1,hr];exact AH hh
  have am:Ez acc x.name=false->DJ (m+1) acc line t=DJ m (acc++[x]) (line+Lib.countByte (t.take (t.length-rest.length)) 10) rest:=fun hh=>by rw [DJ,At Y,At h1,hr];exact At (by rw [hh];decide)
  have an : ∀g,(kq a acc.length cap).ownBlock=some g->g<U.heap.size:=fun g h=>f.lt h
  have ao:=KO (t.take (t.length-rest.length));rw [kn] at ao;have HN:Hid (∀U,Calls prog 33 #[str (t.take ((t.length:Int)-(rest.length:Int)).toNat),str [10]] U fun e w'=>e = .returned (.int .i64 (Lib.countByte (t.take (t.length-rest.length)) 10:Nat))/\w'=U):=jC fun U=>by
   rw [show ((t.length:Int)-(rest.length:Int)).toNat=t.length-rest.length from by omega];exact Pj _ _
  clear hr;generalize Lib.countByte (t.take (t.length-rest.length)) 10=N at *;generalize Ez acc x.name=q at *
  focus
   refine eK ?_;refine eQ rfl (HR.out _ Af Af) ?_;rintro _ br ⟨au,⟨av,⟨aw,⟨ax,⟨ay,⟨az,⟨⟨⟩,⟨M,ap⟩⟩⟩⟩⟩⟩⟩⟩;revert f L F X;refine eY ap ?_;intro a0 f L F X;refine eK ?_;refine xA [_,_,_,_,_,_,_,_,_,_,_,_] ?_;intro a1 a2 Z;refine eI [_,_,_,_,_,_,_,_,_,_,_,_] Z ?_;intro a3 E aa a4 a5;revert M f L F X;refine eE aa ?_;intro M f L F X;refine eK ?_;refine cC rfl (HH.out _ (OwnL.exs f (fun b h=>h))) ?_;rintro _ a6 ⟨⟨⟩,ab⟩;revert E M f L F X;refine eY ab ?_;intro a7 E M f L F X;refine C1 Zm (cT ?_);refine EO rfl (fun ac=>?_) (fun ac=>?_);refine eK ?_;refine FF rfl rfl rfl rfl ?_;rotate_left;refine eK ?_;refine CP [_,_,_,_,_,_,_,_,_,_,_,_] Ac rfl rfl rfl E rfl rfl rfl ?_;refine AB (xS [_,_,_,_,_,_,_,_,_,_,_,_]) rfl ?_ aFh;rintro _ a8 ⟨a9,rfl,O,ba⟩;have ad:=O.blk;have ae:=O.ext;have bb:=O.pos;have bc:=O.size;revert E M f L F X;refine eE ae ?_;intro E M f L F X;refine BU (sh:=F7) Ac Dj rfl rfl rfl rfl Bx rfl rfl rfl f (Blk.row Af) ⟨_,_,_,_,_,_,rfl,EX.sits.wide Af (fun b h=>⟨Aa,fun e=>by have:=an _ e;omega⟩)⟩ Aa Aa rfl ?_;rintro bd af be bf V;have bg:=V.size;clear ad E M f;revert L F X;refine eF V ?_;intro L F X;refine eK ?_;refine C1 (CT rfl rfl (j7 _ Aa)) (C1 (OF Ac rfl rfl rfl Aa Aa) (cC rfl (HN.out _) ?_));rintro _ bh ⟨⟨⟩,rfl⟩;refine C1 V7 (C1 Pa (cT (Ak (C1 Mv (C1 Pa (Ai (Ae ?_)))))));rotate_left
  . rw [al Af];exact ⟨_,_,rfl,jN _,jF rfl,X⟩
  . rw [am Af];refine Ax (rest,acc++[x],some ⟨_,0,none⟩,_,line+N) sB ⟨by simp only [jy,jz,jD];omega,by simp only;omega,by simp only [jy,jz,jD];rw [show 101-(acc.length+(0+1))=m from by omega],Af,Af,Af,X⟩ (by simp only [jy,jz,jD];omega)
def awText:lB:=[101,120,101,114,99,105,115,101,32,105,110,99,32,112,111,105,110,116,115,32,53,32,102,117,101,108,32,49,48,48,32,118,97,108,117,101,32,50,32,108,101,110,103,116,104,32,48,32,105,110,112,117,116,32,48,32,108,105,110,101,115,32,52,10,105,110,116,32,120,10,109,97,105,110,32,123,10,9,120,32,43,61,32,49,59,10,125,10]
def ju:PG:=⟨[⟨[120],1,0⟩],[],.mk 57 0 [] [.mk 40 0 [] [.mk 2 0 [120] [],.mk 1 1 [] []]]⟩
def awE:EX:=⟨[105,110,99],5,100,⟨2,0,0⟩,ju⟩
def SJ:awE.valid:=of_decide_eq_true Bx
def YN:Iw awText=([awE],0,0):=by kernel_rfl
def bI:awE.text=awText:=by kernel_rfl
def YO:ED [awE]=(awText,0):=by
 have E:Ch [awE]=awText:=by unfold Ch;rw [List.flatMap_cons,List.flatMap_nil,kB,bI]
 have F : ¬GB [awE]:=by
  rintro ⟨i,L,e,f,h⟩;simp only [jz,jD] at L;obtain rfl:i=0:=by omega
  simp [Ez] at h
 rw [Lp Ao (fun e f=>by rw [kP] at f;rw [f];exact SJ) F (by rw [E];decide),E]
def dH:awE.wf:=by
 refine ⟨?_,?_,?_⟩
 . decide
 . exact IF (awText.drop 64) Ao Bx
 . decide
def AwR (w:wD):Ending->wD->Prop:=fun e w'=> ∃b o va vc pa pc ma mc c,e = .returned (.tuple #[.slice (some ⟨b,o,none⟩) 1 c,.int .i64 0,.int .i64 0])/\Row w' ⟨b,o,none⟩ [str [105,110,99],.int .i64 5,.int .i64 100,.int .i64 2,.int .i64 0,.int .i64 0,.slice va 1 vc,.slice pa 0 pc,.int .u8 57,.int .i64 0,str [],.slice ma 1 mc]/\awE.sits (w.heap.size <= ·) w' va pa ma vc/\1<=c/\EXs (w.heap.size <= ·) w' [awE] (some ⟨b,o,none⟩)/\Ext w w'
def AwR.ret {w w':wD} {e:Ending} (h:AwR w e w') : ∃v,e = .returned v:=by
 obtain ⟨_,_,_,_,_,_,_,_,_,h,-⟩:=h;exact ⟨_,h⟩
def iX (w:wD) (E:Errs2 w) (F:TabsF w):Calls prog 18 #[str awText] w (AwR w):=by
 have h:=Ls awText Ao w E F;rw [YN] at h;refine h.mono ?_;rintro e w' ⟨a,c,h1,L,f,X⟩;obtain ⟨b,o,rfl,-,M⟩:=lw f Bg;obtain ⟨N,O,U,V,Y,Z,r,s⟩:=M 0 _ rfl;exact ⟨b,o,N,O,U,V,Y,Z,c,h1,r,s,L,f,X⟩
def AwS (w:wD):Ending->wD->Prop:=fun e w'=> ∃va vc pa pc b o mc n s xa xl xc,e = .returned (.tuple #[.agg #[.slice va 1 vc,.slice pa 0 pc,.int .u8 57,.int .i64 0,str [],.slice (some ⟨b,o,none⟩) 1 mc],.int .i64 0])/\Row w' ⟨b,o,none⟩ [.int .u8 41,.int .i64 n,str s,.slice xa xl xc]/\Ext w w'
def AwS.ret {w w':wD} {e:Ending} (h:AwS w e w') : ∃v,e = .returned v:=by
 obtain ⟨_,_,_,_,_,_,_,_,_,_,_,_,h,-⟩:=h;exact ⟨_,h⟩
def jv:PG:=⟨[⟨[120],1,0⟩],[],.mk 57 0 [] [.mk 41 0 [] [.mk 2 0 [120] [],.mk 1 1 [] []]]⟩
def gW:awE.g.pinv=jv:=by kernel_rfl
def fN (S:nP) (f:oA) (E:Nat) (F:oA) (Z:Nat) (L:oA) (mc:Nat) (w:wD) (hs:awE.sits S w f F L E) :
 Calls prog 22 #[.agg #[str [105,110,99],.int .i64 5,.int .i64 100,.int .i64 2,.int .i64 0,.int .i64 0,.slice f 1 E,.slice F 0 Z,.int .u8 57,.int .i64 0,str [],.slice L 1 mc]] w (AwS w):=by
 have h:=aA awE dH SJ S f E F Z L mc w hs;rw [gW] at h;refine Calls.mono h ?_;rintro e w' ⟨M,N,O,U,V,Y,h1,h2,-,-,X⟩;have hm:=h2.main;obtain ⟨b,o,xa,xc,rfl,-,r,-⟩:=iM (show rowSits _ w' [.mk 41 0 [] [.mk 2 0 [120] [],.mk 1 1 [] []]] V from hm);exact ⟨M,N,O,U,b,o,Y,_,_,_,_,_,h1,r,X⟩
def PI (w:World) (M:Errs2 w) (L:TabsF w):Calls prog 10 #[] w fun e w'=>e = .returned (.bool true)/\Ext w w':=by
 have X:=kQ w;have al:=L.g;have HP:=jC (fun Y h1 h2=>iX Y h1 h2);have HR:=jC (fun S a c hc Y h1 h2=>Jn [awE] (fun e he=>by rw [kP] at he;rw [he];exact dH) S a c Ao hc Y h1 h2);rw [YO] at HR;have HS:=jC (fun S va vc pa pc ma mc Y h=>fN S va vc pa pc ma mc Y h);have am:str awText = .string ⟨awText.toArray⟩:=rfl;refine Ad func10 ntmps10 rfl rfl ?_
 refine cS (C1 Pa (cN (C1 Pa (cN (C1 Mv ?_)))));refine eQ rfl (HP.out _ Af Af) ?_;rintro _ an ⟨b1,⟨o2,⟨ao,⟨ap,⟨aq,⟨ar,⟨au,⟨av,⟨c9,⟨⟨⟩,⟨f,⟨E,⟨aw,⟨F,N⟩⟩⟩⟩⟩⟩⟩⟩⟩⟩⟩⟩⟩⟩;have ax:=N.size;revert M L X;refine eE N ?_;intro M L X;clear N;refine C1 Mv (C1 Px (C1 Px (C1 Px (C1 Pa (C1 Pa (C1 Pa (cT (Al (cS (C1 Mv (C1 V2 ?_)))))))))));refine C1 Mv (Kb (C1 Mv (Kb (C1 V2 (C1 Y7 (C1 Mv (Kb (C1 Mv (Kb (C1 Pz (Kb ?_)))))))))));refine C1 V2 (C1 Y7 (C1 Mv (Kb (C1 Mv (Kb (C1 Pi (Kb (C1 Pg (Kb (C1 (Pw f) (Kb ?_)))))))))));refine C1 V9 (C1 Y7 (C1 Mv (Kb (C1 Mv (Kb (C1 Pi (Kb (C1 Pf (Kb (C1 (Pw f) (Kb ?_)))))))))));refine C1 V2 (C1 Y7 (cT (dN (Aw (Ag (cS (C1 Mv ?_)))))));refine cC rfl (HR.out _ _ _ Af _ Af Af) ?_;rintro _ ay ⟨⟨⟩,O⟩;have az:=O.size;revert f E F M L X;refine eE O ?_;intro f E F M L X;clear O;refine C1 Mv (C1 Px (C1 Px (C1 Pa (C1 Pa (cN (C1 Mv (C1 Pi (Eb [_,_,_,_,_,_,_,_,_,_,_,_] Ac rfl rfl rfl f rfl rfl rfl ?_))))))));refine eQ rfl (HS.out _ _ _ _ _ _ _ _ Af) ?_;rintro _ a0 ⟨ad,⟨ae,⟨af,⟨ag,⟨a1,⟨a2,⟨ah,⟨a3,⟨a4,⟨ai,⟨aj,⟨ak,⟨⟨⟩,⟨U,V⟩⟩⟩⟩⟩⟩⟩⟩⟩⟩⟩⟩⟩⟩;have a5:=V.size;revert f E F M L X;refine eE V ?_;intro f E F M L X;clear V;refine C1 Mv (C1 Px (C1 Px ?_));refine Hc [_,_,_,_,_,_] Dj rfl rfl ?_
 intro a6 ac Z;refine eI [_,_,_,_,_,_] Z ?_;clear Z ac;intro a7 aa ab a8 a9;revert U f E F M L X;refine eE ab ?_;intro U f E F M L X;clear ab;refine C1 Pa (cN (C1 Mv (C1 V1 (C1 Mv (LF (C1 Mv (LF (C1 Mv (LF (C1 V8 (C1 Zm ?_)))))))))));refine C1 Mv (LF (C1 Mv (LF (C1 V1 (C1 Zm (C1 Mv (LF (C1 Pf (LF (C1 Pf (LF ?_)))))))))));refine C1 (Pl aa) (LF (C1 Pz (LF (C1 V1 (C1 Zm (C1 Mv (LF (C1 Pf (LF (C1 Pf (LF ?_)))))))))));refine C1 (Pl aa) (LF (C1 Pi (LF (C1 Pg (LF (C1 (Pw U) (LF (C1 V1 (C1 Zm (C1 Pa (cT ?_)))))))))));refine BK (BM rfl rfl ?_)
 exact ⟨rfl,X⟩
def CntR (d:Nat) (w:wD):Ending->wD->Prop:=fun e w'=> ∃v:Int,e = .returned (.int .i64 v) /\ -1<=v/\v<=1001*d/\Ext w w'
def CntR.ret {d:Nat} {w w':wD} {e:Ending} (h:CntR d w e w') : ∃v,e = .returned v:=by
 obtain ⟨_,h,-⟩:=h;exact ⟨_,h⟩
def SK : ∀(d:Nat),d<=100 -> ∀(t:Nd) (S:Nat->Prop) (a:Option Addr) (c:Nat) (w:World),t.wf->t.sits S w a->Calls prog 76 #[t.val a c,.int .i64 d] w (CntR d w)
 | 0,_,⟨k,n,s,l⟩,S,a,c,w,M,E=>by
  have X:=kQ w;simp only [kZ,lp,lj,li,lq];refine Ad func76 ntmps76 rfl rfl ?_
  refine cS ?_;refine eB [_,_,_,_] ?_;intro b1 w2 h4 x5 p6 z7;replace E:=Nd.sits.ext E x5;replace X:=X.ext x5;clear x5;refine C1 Pa (cT (Al (cS (C1 Mv (C1 V3 (cT (jg (cS (C1 Pa (cT (BK ?_)))))))))));refine AI (BM rfl rfl ?_)
  exact ⟨_,rfl,Aa,Aa,X⟩
 | d+1,hd,⟨k,n,s,l⟩,S,a,c,w,M,E=>by
  have X:=kQ w;simp only [kZ,lp,lj,li,lq];have E:=(Mu _ _ E:(Nd.mk k n s l).sits _ w a);simp only [Nd.sits] at E;simp only [Nd.wf] at M;have HI:=jC (SK d Aa)
  have af:l.length<=9223372036854775807:=by omega
  have HW:=jC (rowWf_iff.1 M.2.2.2.2.2.2);clear M
  have O:((d+1:Nat):Int)=(d:Int)+1:=by omega
  rw [O];refine Ad func76 ntmps76 rfl rfl ?_
  refine cS ?_;refine GM [_,_,_,_] rfl rfl rfl ?_;intro U ag L;have f:=L.blk;have V:=L.ext;have ah:=L.pos;have ai:=L.size;clear L E;replace X:=X.ext V;replace E:=Bk.rowSits.ext E V;clear V;refine C1 Pa (cT (Al (cS (C1 Mv (C1 V3 (cT (II (Aw (Ag (cS (C1 Pa ?_)))))))))));refine cT (Al (cS (C1 Pa (cT ?_))))
  refine Av ?_;refine AK (ι:=Nat×Int) (fun x=>[(1,.int .i64 ((d:Int)+1)),(2,.pointer (some ⟨U,0,none⟩)),(5,.int .i64 x.2),(6,.int .i64 x.1)])
   (fun x w'=>x.1<=l.length/\(1<=x.2/\x.2<=1001*((d:Int)+1))/\Blk w' U [.int .u8 k,.int .i64 n,str s,.slice a l.length c]/\rowSits S w' l a/\Ext w w') (fun x=>l.length-x.1) (0,1) sB ⟨jN _,⟨Aa,by simp only;omega⟩,f,E,X⟩ ?_
  clear f E X;rintro ⟨i,v⟩ Y ⟨hi,⟨aa,ab⟩,f,E,X⟩;simp only at hi aa ab;refine CW.sub (m:=[(1,.int .i64 ((d:Int)+1)),(2,.pointer (some ⟨U,0,none⟩)),(5,.int .i64 v),(6,.int .i64 i)]) ?_ sB
  by_cases N:i<l.length
  . obtain ⟨kb,ko,rfl,aj,hk⟩:=Ce E (by intro h;rw [h] at N;simp at N);obtain ⟨xa,xc,rx,sx⟩:=hk i _ (jB N);have Z:=HW.out _ (jH N);clear hk
    generalize l[i]=x at *
    replace HI:Hid (∀a c Y,x.sits S Y a->Calls prog 76 #[x.val a c,.int .i64 ((d:Int)+1-1)] Y (CntR d Y)):=jC fun a c Y h=>by rw [Int.add_sub_cancel];exact HI.out x S a c Y Z h
    clear Z;obtain ⟨xk,xn,xs,xl⟩:=x;simp only [kZ,lp,lj,li,lq,Nd.cells] at rx HI
    focus
     refine Al (cS (C1 Mv (C1 Pf (C1 (Pl f) (C1 Pz (C1 V3 (cT (dO (Aw (Ag (Al ?_)))))))))));refine Av (cS (C1 Pf (C1 (Pl f) (C1 Mv (C1 Pi (C1 (Zn rx) (C1 Mv ?_)))))));refine C1 (CT rfl rfl (j7 _ Aa)) ?_;refine eQ rfl (HI.out _ _ _ Af) ?_;rintro _ ak ⟨ac,⟨⟨⟩,⟨al,⟨am,F⟩⟩⟩⟩;have an:=F.size;replace X:=X.ext F;replace f:=f.ext F;replace E:=Bk.rowSits.ext E F;replace rx:=rx.ext F;replace sx:=Nd.sits.ext sx F;clear F;refine C1 Pa (cT (Al (cS (C1 Mv (C1 V3 (C1 Mv ?_))))));refine DO rfl rfl rfl (fun ad=>?_) (fun ad=>?_);refine Vv (Vv (C1 Y5 (cT (Em rfl (cS (C1 Pa (cT (BK (AI (AY (AI ?_)))))))))));refine AI (AY (AI (BM rfl rfl ?_)));rotate_left;refine dP (C1 Mv (dP (C1 V5 (C1 Y6 (cT ?_)))));refine AL rfl (fun ae=>?_) (fun ae=>?_);refine cS (C1 Pa (cT (BK (AI (AY (AI (AI (AY (AI (BM rfl rfl ?_))))))))));rotate_left;refine Aw (Ag (Ak (C1 Mv (C1 Mv (C1 V7 (C1 Pa (Ai (Ae (Ag (Ak (C1 Mv ?_)))))))))));refine C1 V7 (C1 Pa (Ai ?_));rotate_left
    . exact ⟨_,rfl,Aa,Aa,X⟩
    . exact ⟨_,rfl,Aa,Aa,X⟩
    . exact Ax (i+1,v+ac) sB ⟨by (try dsimp only);omega,⟨by (try dsimp only);omega,by (try dsimp only);omega⟩,f,E,X⟩ (by (try dsimp only);omega)
  . have:i=l.length:=by omega
    subst this
    refine Al (cS (C1 Mv (C1 Pf (C1 (Pl f) (C1 Pz (C1 V3 (cT (II (DN (AP (AP ?_)))))))))));refine Bt (Ag (cS (C1 Mv (C1 Pa (cT (BK (BM rfl rfl ?_)))))))
    exact ⟨_,rfl,Aa,Aa,X⟩
def BoolR (w:wD):Ending->wD->Prop:=fun e w'=> ∃b:Bool,e = .returned (.bool b)/\Ext w w'
def BoolR.ret {w w':wD} {e:Ending} (h:BoolR w e w') : ∃v,e = .returned v:=by
 obtain ⟨_,h,-⟩:=h;exact ⟨_,h⟩
def YP (t:Nd) (E:t.wf) (S:nP) (a:oA) (c:Nat) (w:wD) (f:t.sits S w a):Calls prog 41 #[t.val a c] w (BoolR w):=by
 have X:=kQ w;have L:=jC (fun U h=>SK 100 Aa t S a c U E h);clear E;obtain ⟨k,n,s,l⟩:=t;simp only [kZ,lp,lj,li,lq] at L ⊢;refine Ad func41 ntmps41 rfl rfl ?_
 focus
  refine cS (eB [_,_,_,_] ?_);intro b1 w2 F V p6 z7;revert X f;refine eE V ?_;intro X f;refine eK ?_;refine eQ rfl (L.out _ Af) ?_;rintro _ Y ⟨v8,⟨⟨⟩,⟨h9,⟨Z,M⟩⟩⟩⟩;revert F X f;refine eY M ?_;intro aa F X f;refine eK ?_;refine DO rfl rfl rfl (fun N=>?_) (fun N=>?_);refine eK ?_;refine xR ?_;rotate_left;refine eK ?_;refine eQ rfl (L.out _ Af) ?_;rintro _ ab ⟨ac,⟨⟨⟩,⟨ad,⟨ae,O⟩⟩⟩⟩;revert F X f;refine eY O ?_;intro z20 F X f;refine eK ?_;refine xR ?_;rotate_left
 all_goals exact ⟨_,rfl,X⟩
def BigR (g:PG) (w:wD):Ending->wD->Prop:=fun e w'=> ∃b:Bool,e = .returned (.bool b)/\(b=false->g.vars.length<=40/\g.procs.length<=70)/\Ext w w'
def BigR.ret {g:PG} {w w':wD} {e:Ending} (h:BigR g w e w') : ∃v,e = .returned v:=by
 obtain ⟨_,h,-⟩:=h;exact ⟨_,h⟩
def fO (g:PG) (E:g.wf) (S:nP) (va:oA) (vc:Nat) (U:oA) (pc:Nat) (V:oA) (mc:Nat) (w:wD) (hs:g.sits S w va U V):Calls prog 21 #[.agg (g.cells va vc U pc V mc).toArray] w (BigR g w):=by
 have X:=kQ w;have HB:=jC (fun Y h=>YP g.main E.main S V mc Y h);have hv:=E.nv;have hp:=E.np;have HW:=jC E.procs;have f:=hs.procs;have M:=hs.main;clear hs E;obtain ⟨vars,procs,m⟩:=g;simp only [lq] at HB f M hv hp HW ⊢;refine Ad func21 ntmps21 rfl rfl ?_
 focus
  refine cS (GM [_,_,_,_,_,_] rfl rfl rfl ?_);intro b1 w2 Z;have F:=Z.blk;dsimp only at F;have x5:=Z.ext;have p6:=Z.pos;have z7:=Z.size;revert X f M;refine eE x5 ?_;intro X f M;refine eK ?_;refine DO rfl rfl rfl (fun c8=>?_) (fun c8=>?_);refine eK ?_;refine xR ?_;rotate_left;refine eK ?_;refine DO rfl rfl rfl (fun c9=>?_) (fun c9=>?_);refine eK ?_;refine xR ?_;rotate_left;refine eK ?_;refine eQ rfl (HB.out _ Af) ?_;rintro _ af ⟨ag,⟨⟨⟩,aa⟩⟩;revert F X f M;refine eY aa ?_;intro ah F X f M;refine C1 Y6 (cT ?_);refine EO rfl (fun ab=>?_) (fun ab=>?_);refine eK ?_;refine xR ?_;rotate_left;refine Aw (Ag (Al (cS (C1 Pa (cT ?_)))));rotate_left
 . exact ⟨_,rfl,(fun h=>by cases h),X⟩
 . exact ⟨_,rfl,(fun h=>by cases h),X⟩
 . exact ⟨_,rfl,(fun h=>by cases h),X⟩
 refine Av ?_;refine AK (ι:=Nat) (fun j=>[(1,.pointer (some ⟨b1,0,none⟩)),(3,.int .i64 j)])
  (fun j w'=>j<=procs.length/\Blk w' b1 [.slice va vars.length vc,.slice U procs.length pc,.int .u8 m.kind,.int .i64 m.num,str m.name,.slice V m.kids.length mc]/\PDs S w' procs U/\Ext w w') (fun j=>procs.length-j) 0 sB ⟨jN _,F,f,X⟩ ?_
 clear F f X M;rintro j Y ⟨hj,F,f,X⟩;by_cases N:j<procs.length
 . obtain ⟨kb,ko,rfl,-,hk⟩:=lw f Aa;obtain ⟨xa,xc,ya,yc,rx,-,sx⟩:=hk j _ (jB N);have L:=HW.out _ (jH N);clear hk;generalize procs[j]=x at *;have O:=jC (fun Y h=>YP x.body L.body S ya yc Y h);have ai:=L.len;clear L;simp only [lq] at O
   focus
    refine eK ?_;refine C1 (Pw rx) ?_;refine eK ?_;refine DO rfl rfl rfl (fun ac=>?_) (fun ac=>?_);refine eK ?_;refine xR ?_;rotate_left;refine eK ?_;refine Eb [_,_,_,_] Ac rfl rfl rfl rx rfl rfl rfl (dP (eQ rfl (O.out _ Af) ?_));rintro _ aj ⟨ak,⟨⟨⟩,ad⟩⟩;revert X F f rx sx;refine eY ad ?_;intro al X F f rx sx;refine C1 Y6 (cT ?_);refine EO rfl (fun ae=>?_) (fun ae=>?_);refine eK ?_;refine xR ?_;rotate_left;refine Aw (Ae (Ag (Ak (C1 Mv (C1 V7 (C1 Pa (Ai ?_)))))));rotate_left
   . exact ⟨_,rfl,(fun h=>by cases h),X⟩
   . exact ⟨_,rfl,(fun h=>by cases h),X⟩
   . exact Ax (j+1) sB ⟨Aa,F,f,X⟩ Aa
 . refine eK ?_;refine xR ?_;exact ⟨_,rfl,(fun _=>⟨by (try dsimp only);omega,by (try dsimp only);omega⟩),X⟩
def gX (e:EX) (M:oA) (N:Nat) (O:oA) (U:Nat) (V:oA) (Y:Nat) (w:wD) :
 Calls prog 13 #[.agg (e.cells M N O U V Y).toArray] w fun r w'=>r = .returned (.agg (e.cells M N O U V Y).toArray)/\Ext w w':=by
 have X:=kQ w;unfold lJ;refine Ad func13 ntmps13 rfl rfl ?_;refine cS (eB [_,_,_,_,_,_,_,_,_,_,_,_] ?_);intro b1 w2 f Z p6 z7;have X:=X.ext Z;refine eA [_,_,_,_,_,_,_,_,_,_,_,_] ?_;intro b8 w9 h E aa ab;revert f X;refine eE E ?_;intro f X;refine eK ?_;refine C1 (xB [_,_,_,_,_,_,_,_,_,_,_,_]) (eS [_,_,_,_,_,_,_,_,_,_,_,_] h ?_);intro ac F L ad;revert f X;refine eF L ?_;intro f X;refine eK ?_;refine xC F ?_;exact ⟨rfl,X⟩
def fP {g:PG} (hg:g.few) (S S':nP) (N O U f h E:oA) (X Y Z F L M:Nat) (w:wD) (hs:g.sits S w N O U) (V:g.sits S' w f h E) :
 Calls prog 23 #[.agg (g.cells N X O Y U Z).toArray,.agg (g.cells f F h L E M).toArray] w fun e w'=>e = .returned (.bool true)/\Ext w w':=Z0 g S S' N O U f h E X Y Z F L M w hg hs V
def Ue:(prog.fieldsOf 27).toList.map (fun f=>(f.name == "_",f.type,f.offset))=[(false,3,0),(false,3,1),(false,3,2)]:=by kernel_rfl
def WL:prog.underlying 27=some (.struct (prog.fieldsOf 27)):=by kernel_rfl
def WM:prog.stoodInHeld 27=false:=by kernel_rfl
def WN:prog.eqGuardType prog.depth 27=false:=by kernel_rfl
def BoxV.val (b:BoxV):Value:=.agg #[.int .i64 b.v,.int .i64 b.l,.int .i64 b.i]
def QS (b:BoxV) (w:wD):(Op.equalIn 10000 27 b.val b.val).run prog w = .ok true w:=by
 unfold BoxV.val
 rw [show (10000:Nat)=9999+1 from rfl,run_equalIn_agg w 9999 _ _ _ WL WM];refine G4 _ (fun f F=>?_);have E:(f.name == "_",f.type,f.offset)∈(prog.fieldsOf 27).toList.map (fun f=>(f.name == "_",f.type,f.offset)):=List.mem_map.2 ⟨f,F,rfl⟩;rw [Ue] at E;simp only [jR,jU,or_false,kf] at E
 rcases E with ⟨-,h1,h⟩|⟨-,h1,h⟩|⟨-,h1,h⟩
 . rw [h1,h]
   refine ⟨.int .i64 b.v,Hr (cs:=[.int .i64 b.v,.int .i64 b.l,.int .i64 b.i]) Ac rfl rfl rfl w,?_⟩
   rw [run_equalIn_int w 9998 _ _ .i64 _ _ (show prog.underlying 3=some (.int .i64) from (Ac 3 (.int .i64) 1 rfl).under)];simp
 . rw [h1,h]
   refine ⟨.int .i64 b.l,Hr (cs:=[.int .i64 b.v,.int .i64 b.l,.int .i64 b.i]) Ac rfl rfl rfl w,?_⟩
   rw [run_equalIn_int w 9998 _ _ .i64 _ _ (show prog.underlying 3=some (.int .i64) from (Ac 3 (.int .i64) 1 rfl).under)];simp
 . rw [h1,h]
   refine ⟨.int .i64 b.i,Hr (cs:=[.int .i64 b.v,.int .i64 b.l,.int .i64 b.i]) Ac rfl rfl rfl w,?_⟩
   rw [run_equalIn_int w 9998 _ _ .i64 _ _ (show prog.underlying 3=some (.int .i64) from (Ac 3 (.int .i64) 1 rfl).under)];simp
def Uf {n:Nat} {l:Sl} {S:wD->Prop} {ty t':TypeId} {x y:Operand} {b:BoxV} (E:ev l x=some (.agg #[.int .i64 b.v,.int .i64 b.l,.int .i64 b.i])) (F:ev l y=some (.agg #[.int .i64 b.v,.int .i64 b.l,.int .i64 b.i])):BH prog n l S (.binOp .neq 27 x y t') ty (.bool false):=by
 unfold BH;intro a w L pos after g f _;have M:=run_eqGuard_agg (P:=prog) w .neq 27 x y #[.int .i64 b.v,.int .i64 b.l,.int .i64 b.i] #[.int .i64 b.v,.int .i64 b.l,.int .i64 b.i] WN;have h:(binOp .neq 27 b.val b.val).run prog w = .ok (.bool false) w:=by
  unfold BoxV.val;rw [run_neq_struct];have:=QS b w;unfold BoxV.val at this;rw [this];rfl
 unfold BoxV.val at h;simp only [execOp,f.ev E,f.ev F,jO,M,h,kE,jZ]
set_option maxHeartbeats 8000000 in
def Vb (l:List EX) (aq:l.length<=1000000) (hf : ∀e∈l,e.g.few) (S S':nP) (a a':oA) (c c':Nat) (w:wD) (O:EXs S w l a) (h:EXs S' w l a') :
 Calls prog 20 #[.slice a l.length c,.slice a' l.length c'] w fun r w'=>r = .returned (.bool true)/\Ext w w':=by
 have X:=kQ w;have O:=O.ltA;have h:=h.ltA;have HF:=jC hf;clear hf;refine Ad func20 ntmps20 rfl rfl ?_;refine cS (C1 Pa (cT (Al (cS (C1 Mv (C1 Pz (C1 Mv (C1 Pz (C1 V2 (cT (II ?_)))))))))));refine Aw (Ag (Al (cS (C1 Mv (C1 Pz (C1 Mv (cT ?_)))))));refine Av ?_;refine AK (ι:=Nat) (fun j=>[(0,.slice a l.length c),(1,.slice a' l.length c'),(12,.int .i64 l.length),(13,.int .i64 j)])
  (fun j w'=>j<=l.length/\EXs (· < w.heap.size) w' l a/\EXs (· < w.heap.size) w' l a'/\Ext w w') (fun j=>l.length-j) 0 sB ⟨jN _,O,h,X⟩ ?_
 clear O h X;rintro j w1 ⟨hj,O,h,X⟩;by_cases Y:j<l.length
 . obtain ⟨kb,ko,rfl,-,hk⟩:=lw O Aa;obtain ⟨ar,au,rfl,-,ac⟩:=lw h Aa;obtain ⟨va,vc,pa,pc,ma,mc,rx,sx⟩:=hk j _ (jB Y);obtain ⟨ai,aj,ak,al,am,an,L,M⟩:=ac j _ (jB Y);have ad:=HF.out _ (jH Y);clear hk ac;generalize l[j]=e at *;have HE:=jC (fun w1 h1 h2=>fP ad (· < w.heap.size) (· < w.heap.size) va pa ma ai ak am vc pc mc aj al an w1 h1 h2);clear ad;have hg:=sx.g;have U:=M.g;unfold lJ at rx L;refine eK ?_;refine AD (fun N=>Ext w1 N) 61 (.pure 0 (.pure 1 (.pure 2 (.pure 3 (.pure 4 (.pure 5 (.pure 6 (.pure 7 (.pure 8 (.pure 9 (.pure 10 (.pure 11 (.pure 12 (.pure 13 (.pure 14 (.pure 15 (.pure 16 (.pure 17 (.pure 18 (.pure 19 (.pure 20 (.pure 21 (.pure 22 (.pure 23 (.pure 24 (.pure 25 (.pure 26 (.pure 27 (.pure 28 (.pure 29 (.pure 30 (.pure 31 (.pure 32 (.pure 33 (.pure 34 (.pure 35 (.pure 36 (.pure 37 (.pure 38 (.pure 39 (.pure 40 (.pure 41 (.pure 42 (.pure 43 (.pure 44 (.pure 45 (.pure 46 (.pure 47 (.pure 48 (.pure 49 (.pure 50 (.pure 51 (.pure 52 (.pure 53 (.pure 54 (.pure 55 (.pure 56 (.pure 57 (.pure 58 (.pure 59 (.pure 60 .tail))))))))))))))))))))))))))))))))))))))))))))))))))))))))))))) mixed Bx (Ab (Aj (Ab (Ab (Aj (Ab Am)))))) ?_;intro ao ae _;have V:(fun N=>Ext w1 N) ao:=ae;simp only at V;have af:=O;have Z:=h;have E:=rx;have ag:=sx;have f:=L;have aa:=M;have ah:=hg;have ab:=U;revert X O h rx sx L M hg U;refine eY ae ?_;intro av X O h rx sx L M hg U;refine ⟨V,?_⟩;refine eT ?_;refine Tq rfl (Ay Ac rfl rfl rfl (fun N F=>lE (ll E F) rfl)) ?_;refine eT ?_;refine Tq rfl (Ay Ac rfl rfl rfl (fun N F=>lE (ll f F) rfl)) (Tq rfl V9 (Tq rfl Mv (IC rfl rfl rfl rfl (EH (not_not_intro rfl)) (AX rfl) rfl (IC rfl rfl rfl rfl (EH (not_not_intro rfl)) (AX rfl) rfl (IC rfl rfl rfl rfl (EH (not_not_intro rfl)) (AQ Ac rfl rfl rfl rfl Aa Aa) rfl (IC rfl rfl rfl rfl (EH (not_not_intro rfl)) (AG Ac rfl rfl rfl) rfl (IC rfl rfl rfl rfl (EH (not_not_intro rfl)) (Ay Ac rfl rfl rfl (fun N F=>Row.at (ll E F) rfl)) rfl (IC rfl rfl rfl rfl (EH (not_not_intro rfl)) (AX rfl) rfl (IC rfl rfl rfl rfl (EH (not_not_intro rfl)) (AX rfl) rfl (IC rfl rfl rfl rfl (EH (not_not_intro rfl)) (AQ Ac rfl rfl rfl rfl Aa Aa) rfl (IC rfl rfl rfl rfl (EH (not_not_intro rfl)) (AG Ac rfl rfl rfl) rfl ?_)))))))))))
   refine IC rfl rfl rfl rfl (EH (not_not_intro rfl)) (Ay Ac rfl rfl rfl (fun N F=>Row.at (ll f F) rfl)) rfl (IC rfl rfl rfl rfl (EH (not_not_intro rfl)) (P1 rfl rfl) rfl (Tq rfl (Qn (not_not_intro rfl)) (Tq rfl Mv (eN rfl (AX rfl) (eN rfl (AX rfl) (eN rfl (AQ Ac rfl rfl rfl rfl Aa Aa) (eN rfl (AG Ac rfl rfl rfl) (eN rfl (Ay Ac rfl rfl rfl (fun N F=>Row.at (ll E F) rfl)) (eN rfl (AX rfl) (eN rfl (AX rfl) (eN rfl (AQ Ac rfl rfl rfl rfl Aa Aa) ?_)))))))))));refine eN rfl (AG Ac rfl rfl rfl) (eN rfl (Ay Ac rfl rfl rfl (fun N F=>Row.at (ll f F) rfl)) (eN rfl (P1 rfl rfl) (Tq rfl OK (Tq rfl Mv (eN rfl (AX rfl) (eN rfl (AX rfl) (eN rfl (AQ Ac rfl rfl rfl rfl Aa Aa) (eN rfl (AG Ac rfl rfl rfl) (eN rfl (CO [_,_,_] Ac rfl rfl rfl (fun N F=>(ll E F)) rfl rfl) (eN rfl (AX rfl) (eN rfl (AX rfl) ?_)))))))))));refine eN rfl (AQ Ac rfl rfl rfl rfl Aa Aa) (eN rfl (AG Ac rfl rfl rfl) (eN rfl (CO [_,_,_] Ac rfl rfl rfl (fun N F=>(ll f F)) rfl rfl) (eN rfl (Uf (b:=e.box) rfl rfl) (Tq rfl OK (Tq rfl Mv (eN rfl (AX rfl) (eN rfl (AX rfl) (eN rfl (AQ Ac rfl rfl rfl rfl Aa Aa) (eN rfl (AG Ac rfl rfl rfl) (eN rfl (CO [_,_,_,_,_,_] Ac rfl rfl rfl (fun N F=>(ll E F)) rfl rfl) (eN rfl (AX rfl) ?_)))))))))));refine eN rfl (AX rfl) (eN rfl (AQ Ac rfl rfl rfl rfl Aa Aa) (eN rfl (AG Ac rfl rfl rfl) (eN rfl (CO [_,_,_,_,_,_] Ac rfl rfl rfl (fun N F=>(ll f F)) rfl rfl) ?_)));clear V af Z E ag f aa ah ab;refine AE rfl (Bd rfl rfl rfl (rfl) (cC rfl (HE.out _ Af Af) ?_));rintro _ aw ⟨⟨⟩,ap⟩;revert X O h rx sx L M hg U;refine eY ap ?_;intro ax X O h rx sx L M hg U
   refine Bd rfl rfl rfl (rfl) (C1 Pt (C1 (BR rfl rfl rfl) (cT (C7 rfl (Aw (Ae (Ag (Ak (C1 V7 (C1 Mv (Ai ?_)))))))))));exact Ax (j+1) sB ⟨Aa,O,h,X⟩ Aa
 . obtain rfl:j=l.length:=by omega
   refine eK ?_;refine xR ?_;exact ⟨rfl,X⟩
def GreatR (l:List EX) (w:wD):Ending->wD->Prop:=fun e w'=> ∃b:Bool,e = .returned (.bool b)/\(b=false->l.length<=110 /\ ∀e∈l,e.g.vars.length<=40/\e.g.procs.length<=70)/\Ext w w'
def GreatR.ret {l:List EX} {w w':wD} {e:Ending} (h:GreatR l w e w') : ∃v,e = .returned v:=by
 obtain ⟨_,h,-⟩:=h;exact ⟨_,h⟩
def Lu (l:List EX) (aa:l.length<=9223372036854775807) (Z : ∀e∈l,e.g.wf) (S:nP) (a:oA) (c:Nat) (w:wD) (f:EXs S w l a):Calls prog 11 #[.slice a l.length c] w (GreatR l w):=by
 have X:=kQ w;have f:=f.ltA;have HW:=jC Z;clear Z;refine Ad func11 ntmps11 rfl rfl ?_
 focus
  refine eK ?_;refine AL rfl (fun c1=>?_) (fun c1=>?_);refine eK ?_;refine xR ?_;rotate_left;refine Aw (Ag (Al (cS (C1 Pa (cT ?_)))));rotate_left
 . exact ⟨_,rfl,(fun h=>by cases h),X⟩
 refine Av ?_;refine AK (ι:=Nat) (fun j=>[(0,.slice a l.length c),(3,.int .i64 j)])
  (fun j w'=>j<=l.length/\(∀e∈l.take j,e.g.vars.length<=40/\e.g.procs.length<=70)/\EXs (· < w.heap.size) w' l a/\Ext w w') (fun j=>l.length-j) 0 sB ⟨jN _,(fun e F=>by simp at F),f,X⟩ ?_
 clear f X;rintro j w1 ⟨hj,L,f,X⟩;have HQ:=jC L;clear L;by_cases E:j<l.length
 . obtain ⟨kb,ko,rfl,-,hk⟩:=lw f Aa;obtain ⟨va,vc,pa,pc,ma,mc,N,O⟩:=hk j _ (jB E);have hx:=HW.out _ (jH E);have hn:(l[j].g.vars.length<=40/\l[j].g.procs.length<=70) -> ∀e∈l.take (j+1),e.g.vars.length<=40/\e.g.procs.length<=70:=fun h e F=>by
    rw [jK E,List.mem_append,kP] at F;rcases F with F|rfl
    . exact HQ.out e F
    . exact h
   clear hk;generalize l[j]=e at *;have HN:=jC hn;clear hn;have HB:=jC (fun w1 h=>fO e.g hx (· < w.heap.size) va vc pa pc ma mc w1 h);clear hx;have M:=O.g;unfold lJ at N
   focus
    refine eK ?_;refine Eb [_,_,_,_,_,_] Ac rfl rfl rfl N rfl rfl rfl (eQ rfl (HB.out _ Af) ?_);rintro _ ab ⟨ac,⟨⟨⟩,⟨U,V⟩⟩⟩;revert X f N O M;refine eY V ?_;intro ad X f N O M;refine cT ?_;refine EO rfl (fun Y=>?_) (fun Y=>?_);refine eK ?_;refine xR ?_;rotate_left;refine Aw (Ae (Ag (Ak (C1 Mv (C1 V7 (C1 Pa (Ai ?_)))))));rotate_left
   . exact ⟨_,rfl,(fun h=>by cases h),X⟩
   . exact Ax (j+1) sB ⟨Aa,HN.out (U Af),f,X⟩ Aa
 . obtain rfl:j=l.length:=by omega
   have L:=HQ.out;rw [jQ] at L;refine eK ?_;refine xR ?_;exact ⟨_,rfl,(fun _=>⟨Aa,L⟩),X⟩
def GivenR (l:List EX) (w:wD):Ending->wD->Prop:=fun e w'=> ∃a c,e = .returned (.slice a l.length c)/\l.length<=c/\EXs (· < w'.heap.size) w' l a/\Ext w w'
def GivenR.ret {l:List EX} {w w':wD} {e:Ending} (h:GivenR l w e w') : ∃v,e = .returned v:=by
 obtain ⟨_,_,h,-⟩:=h;exact ⟨_,h⟩
def GivenQ (S:nP) (l:List EX) (w:wD):Ending->wD->Prop:=fun e w'=> ∃a c,e = .returned (.slice a l.length c)/\l.length<=c/\OwnQ F7 w' S w.heap.size 36 (.slice a l.length c) l/\(l=[]->a=none/\c=0)/\(∀g,(kq a l.length c).ownBlock=some g->w.heap.size<=g)/\Ext w w'
def GivenQ.ret {S:nP} {l:List EX} {w w':wD} {e:Ending} (h:GivenQ S l w e w') : ∃v,e = .returned v:=by
 obtain ⟨_,_,h,-⟩:=h;exact ⟨_,h⟩
def NV (l:List EX) (am:l.length<=1000000) (S:nP) (a:oA) (c:Nat) (w:wD) (hS : ∀b,S b->b<w.heap.size) (M:EXs S w l a):Calls prog 16 #[.slice a l.length c] w (GivenQ S l w):=by
 have X:=kQ w;refine Ad func16 ntmps16 rfl rfl ?_;refine cS (C1 Pa (cN (C1 Pa (cT (Al (cS (C1 Pa (cT ?_))))))));refine Av ?_;refine AK (ι:=Nat×oA×Nat) (fun x=>[(0,.slice a l.length c),(3,.slice x.2.1 (l.take x.1).length x.2.2),(4,.int .i64 x.1)])
  (fun x w'=>x.1<=l.length/\(x.1=0->x.2.1=none/\x.2.2=0)/\OwnQ F7 w' S w.heap.size 36 (.slice x.2.1 (l.take x.1).length x.2.2) (l.take x.1)/\EXs S w' l a/\Ext w w') (fun x=>l.length-x.1) (0,none,0) sB ⟨jN _,fun _=>⟨rfl,rfl⟩,OwnQ.nil,M,X⟩ ?_
 clear M X;rintro ⟨j,oa,oc⟩ w1 ⟨hj,E,f,M,X⟩;simp only at hj E f;have hz:=X.size;refine CW.sub (m:=[(0,.slice a l.length c),(3,.slice oa (l.take j).length oc),(4,.int .i64 j)]) ?_ sB;have L : ∀g,(kq oa (l.take j).length oc).ownBlock=some g->w.heap.size<=g/\g<w1.heap.size:=fun g h=>⟨f.ge h,f.lt h⟩
 have an:(l.take j).length=j:=by rw [kn];omega
 by_cases V:j<l.length
 . clear E;obtain ⟨kb,ko,rfl,aa,hk⟩:=lw M Aa;have ao:=hS kb aa;obtain ⟨va,vc,pa,pc,ma,mc,O,U⟩:=hk j _ (jB V);have Y:=jK V;clear hk;generalize l.take j=xs at *;generalize l[j]=e at *;have HO:=jC (fun w1=>gX e va vc pa pc ma mc w1);unfold lJ at O HO;refine eK ?_;refine cC rfl (HO.out _) ?_;rintro _ ap ⟨⟨⟩,ab⟩;revert X M f O U;refine eY ab ?_;intro aq X M f O U;refine AB (xS [_,_,_,_,_,_,_,_,_,_,_,_]) rfl ?_ aFh;rintro _ ar ⟨au,rfl,N,av⟩;have aw:=N.blk;have ac:=N.ext;have ae:=N.pos;have af:=N.size;revert X M f O U;refine eE ac ?_;intro X M f O U;refine Ee (R:=S) (sh:=F7) Ac Dj rfl rfl rfl rfl Bx rfl rfl rfl f aFh (Blk.row Af) ⟨_,_,_,_,_,_,rfl,EX.sits.wide Af (fun b h=>⟨h,fun e=>by have:=L _ e;have:=hS _ h;omega⟩)⟩ Aa Aa rfl ?_;rintro ag Z ah ai aj ak F;have al:=F.size;have X:=Ext.fr X F (fun k hk=>by have:=L _ hk;omega);have M:=EXs.fr M F (fun b hb hT=>by have:=L _ hT;have:=hS _ hb;(try dsimp only at hb);omega);clear f O;have U:=EX.sits.fr U F (fun b hb hT=>by have:=L _ hT;have:=hS _ hb;(try dsimp only at hb);omega);refine C1 Pa (Ai (Ae (Ag (Ak (C1 Mv (C1 V7 (C1 Pa (Ai ?_))))))));exact Ax (j+1,some ⟨_,0,none⟩,_) (by dsimp only;rw [Y];(refine As rfl ?_;refine As rfl ?_;refine As rfl ?_;exact Cb)) ⟨by (try dsimp only);omega,fun h=>by simp at h,by dsimp only;rw [Y];assumption,M,X⟩ (by (try dsimp only);omega)
 . obtain rfl:j=l.length:=by omega
   rw [jQ] at f L;rw [jQ];have ad:l=[]->oa=none/\oc=0:=fun h=>E (by rw [h];rfl)
   clear E;refine eK ?_;refine xR ?_;exact ⟨_,_,rfl,OwnQ.cap f,f,ad,fun g h=>(L g h).1,X⟩
def Jr (l:List EX) (f:l.length<=1000000) (S:nP) (a:oA) (c:Nat) (w:wD) (E:EXs S w l a):Calls prog 16 #[.slice a l.length c] w (GivenR l w):=
 (NV l f (· < w.heap.size) a c w aFh E.ltA).mono fun _ _ ⟨a,c,h1,h2,h3,_,_,X⟩=>⟨a,c,h1,h2,OwnQ.exs h3 (fun b h=>Nat.lt_of_lt_of_le h X.size) (fun b _ h=>h),X⟩
def KR {c:UInt8} : ∀ {a b:lB},c∉a->ky (a++c::b) c=a.length
 | [],b,_=>by simp [ky]
 | x::a,b,h=>by
  have h1 : ¬(x==c)=true:=by simp only [beq_iff_eq];intro e;exact h (by simp [e])
  have f:=KR (a:=a) (b:=b) (c:=c) (fun e=>h (kH _ e));rw [jP,ky,At h1,f,At (by simp only [beq_iff_eq];omega)];simp
def PJ {c:UInt8} : ∀ {a:lB},c∉a->ky a c = -1
 | [],_=>rfl
 | x::a,h=>by
  have h1 : ¬(x==c)=true:=by simp only [beq_iff_eq];intro e;exact h (by simp [e])
  rw [ky,At h1,PJ (fun e=>h (kH _ e))];rfl
def YQ {a b:lB} (h:(10:UInt8)∉a):E5 (a++10::b)=(a,b,true):=by
 unfold E5 Lib.cut;rw [Lib.index_one,KR h,AH Aa];simp
def Ug {k:Nat} {a:lB} (h:(32:UInt8)∉a):Lib.splitK [32] 0 k a=[a]:=by
 cases k with
 | zero=>rfl
 | succ k=>rw [Lib.splitK,Lib.index_one,PJ h,AH (by rfl)]
def Uh {k:Nat} {a b:lB} (h:(32:UInt8)∉a):Lib.splitK [32] 0 (k+1) (a++32::b)=a::Lib.splitK [32] 0 k b:=by
 rw [Lib.splitK,Lib.index_one,KR h,At (by simp only [beq_iff_eq];omega)];simp
def JV (x y:lB) (r:List lB):Lib.join (x::y::r) [32]=x++32::Lib.join (y::r) [32]:=by
 rw [Lib.join_cons,Lib.join_cons];simp [Lib.joinTail]
def Mb : ∀(f:List lB),f≠[]->(∀x∈f,(32:UInt8)∉x)->Lib.splitK [32] 0 (f.length-1) (Lib.join f [32])=f
 | [],h,_=>absurd rfl h
 | [x],_,h=>by rw [Lib.join_one];exact Ug (h x Bg)
 | x::y::r,_,h=>by
  rw [JV,show (x::y::r).length-1=((y::r).length-1)+1 from by simp,Uh (h x Bg),Mb (y::r) Bg (fun z E=>h z (kH _ E))]
def NW : ∀(f:List lB),(∀x∈f,(32:UInt8)∉x)->(Lib.join f [32]).count 32=f.length-1
 | [],_=>rfl
 | [x],h=>by rw [Lib.join_one];exact List.count_eq_zero.2 (h x Bg)
 | x::y::r,h=>by
  rw [JV,List.count_append,List.count_cons,NW (y::r) (fun z E=>h z (kH _ E)),List.count_eq_zero.2 (h x Bg)];simp
def Ui {f:List lB} (E:f≠[]) (h : ∀x∈f,(32:UInt8)∉x):B9 (Lib.join f [32])=f:=by
 unfold B9 Lib.split;rw [Lib.count_one,NW f h];exact Mb f E h
def pre (acc:List Tok) (r:List Tok×Option Nat):List Tok×Option Nat:=match r.2 with
 | none=>(acc++r.1,none)
 | some p=>([],some p)
def bJ (a b:List Tok) (r:List Tok×Option Nat):pre a (pre b r)=pre (a++b) r:=by
 rcases r with ⟨l,_|p⟩<;>simp [pre]
def Lv (s:lB) : ∀(k p:Nat) (acc:List Tok),CX k s p acc=pre acc (CX k s p [])
 | 0,p,acc=>by simp [CX,pre]
 | k+1,p,acc=>by
  rw [CX,CX];split
  . split
    . simp [pre]
    . rw [Lv s k _ (acc++_),Lv s k _ ([]++_),bJ];simp
  . simp [pre]
def NX (s:lB) : ∀(k f p:Nat) (acc:List Tok),s.length-p<k->s.length-p<f->CX k s p acc=CX f s p acc
 | 0,_,_,_,h,_=>by omega
 | _,0,_,_,_,h=>by omega
 | k+1,f+1,p,acc,h,E=>by
  rw [CX,CX];split
  . split
    . rfl
    . exact NX s k f _ _ Aa Aa
  . rfl
def F9 (s:lB) (p:Nat):List Tok×Option Nat:=CX (s.length+1) s p []
def Mc (s:lB) (p:Nat):Tok:=⟨((Aq (s.drop p)).1:Nat),(s.drop p).take (Aq (s.drop p)).2,(p:Int)⟩
def SL {s:lB} {p:Nat} (h:s.length<=p):F9 s p=([],none):=by
 unfold F9;rw [CX,At Aa]
def SM {s:lB} {p:Nat} (h:p<s.length) (f:(Aq (s.drop p)).2=0):F9 s p=([],some p):=by
 unfold F9;rw [CX,AH h,AH f]
def KS {s:lB} {p:Nat} (h:p<s.length) (f:(Aq (s.drop p)).2≠0):F9 s p=pre [Mc s p] (F9 s (p+(Aq (s.drop p)).2)):=by
 unfold F9;rw [CX,AH h,At f,Lv];rw [NX s s.length (s.length+1) _ _ Aa Aa];rfl
def Jc (r:List Tok×Option Nat):List Tok×Option Nat:=match r.2 with
 | none=>(D6 r.1,none)
 | some p=>([],some p)
def Bp (s:lB) (p:Nat):List Tok×Option Nat:=Jc (F9 s p)
def NY (t:Tok) (r:List Tok×Option Nat):Jc (pre [t] r)=if t.kind≠4/\t.kind≠5 then pre [t] (Jc r) else Jc r:=by
 rcases r with ⟨l,_|p⟩
 . by_cases h:t.kind≠4/\t.kind≠5
   . simp [pre,Jc,D6,List.filter_cons,h]
   . rw [At h];have:(decide (t.kind≠4)&&decide (t.kind≠5))=false:=by
      simp only [Bool.and_eq_false_iff,decide_eq_false_iff_not];omega
     simp only [pre,Jc,D6,List.singleton_append,List.filter_cons,this];simp
 . simp [pre,Jc]
def EM {s:lB} {p:Nat} (h:s.length<=p):Bp s p=([],none):=by
 unfold Bp;rw [SL h];rfl
def JD {s:lB} {p:Nat} (h:p<s.length) (f:(Aq (s.drop p)).2=0):Bp s p=([],some p):=by
 unfold Bp;rw [SM h f];rfl
def G5 {s:lB} {p:Nat} (h:p<s.length) (f:(Aq (s.drop p)).2≠0) (E:(Aq (s.drop p)).1≠4) (F:(Aq (s.drop p)).1≠5) :
 Bp s p=pre [Mc s p] (Bp s (p+(Aq (s.drop p)).2)):=by
 unfold Bp;rw [KS h f,NY,AH];constructor<;>simp only [Mc]<;>omega
def Fm {s:lB} {p:Nat} (h:p<s.length) (f:(Aq (s.drop p)).2≠0) (E:(Aq (s.drop p)).1=4\/(Aq (s.drop p)).1=5) :
 Bp s p=Bp s (p+(Aq (s.drop p)).2):=by
 unfold Bp;rw [KS h f,NY,At];simp only [Mc];omega
def MA {s:lB} {p:Nat} (h:p<s.length):s.drop p=s[p]::s.drop (p+1):=kv h
def SN {c:UInt8} (h:Dn c=true):CG c=false/\B6 c=false/\c≠35:=by
 simp only [Dn,Bool.or_eq_true,decide_eq_true_eq] at h;refine ⟨?_,?_,?_⟩
 . simp only [CG,Bool.and_eq_false_iff,decide_eq_false_iff_not];omega
 . simp only [B6,Bool.and_eq_false_iff,decide_eq_false_iff_not];omega
 . rintro rfl;exact absurd h Ao
def GJ {c:UInt8} {r:lB} (h:Dn c=true):Aq (c::r)=(4,1+Er Dn r):=by
 obtain ⟨h1,f,-⟩:=SN h;simp [Aq,h,h1,f,Er,List.takeWhile_cons];omega
def Ow {r:lB}:Aq (35::r)=(5,1+Er MO r):=by
 have h1:CG 35=false:=by decide
 have f:B6 35=false:=by decide
 have h:Dn 35=false:=by decide
 have E:MO 35=true:=by decide
 simp [Aq,h1,f,h,E,Er,List.takeWhile_cons];omega
def PK {p:UInt8->Bool} {s:lB} (h : ∀c∈s.head?,p c=false):Er p s=0:=by
 cases s with
 | nil=>rfl
 | cons c r=>simp [Er,List.takeWhile_cons,h c Bg]
def Mo {s:lB} {p:Nat} (h:p<s.length) (L:Dn s[p]=true):Bp s p=Bp s (p+1):=by
 have e:Aq (s.drop p)=(4,1+Er Dn (s.drop (p+1))):=by rw [MA h];exact GJ L
 rw [Fm h (by rw [e];simp) (by rw [e];simp),e];by_cases h1:p+1<s.length
 . by_cases f:Dn s[p+1]=true
   . have E:Aq (s.drop (p+1))=(4,1+Er Dn (s.drop (p+1+1))):=by rw [MA h1];exact GJ f
     rw [Fm h1 (by rw [E];simp) (by rw [E];simp),E];have:Er Dn (s.drop (p+1))=1+Er Dn (s.drop (p+1+1)):=by
      rw [MA h1];simp only [Er,List.takeWhile_cons,f,if_true,jz];omega
     rw [this];congr 1;omega
   . rw [PK (s:=s.drop (p+1))];rw [MA h1];intro c F;simp only [List.head?_cons,Option.mem_def,jJ] at F;rw [<-F];simpa using f
 . rw [PK (s:=s.drop (p+1))];rw [List.drop_eq_nil_of_le Aa];simp
def Tok.sh (d:Nat) (t:Tok):Tok:=⟨t.kind,t.text,t.pos+d⟩
def WO (d:Nat) (r:List Tok×Option Nat):List Tok×Option Nat:=(r.1.map (Tok.sh d),r.2.map (· + d))
def bK (d:Nat) (t:Tok) (r:List Tok×Option Nat):WO d (pre [t] r)=pre [t.sh d] (WO d r):=by
 obtain ⟨l,e⟩:=r;cases e<;>simp [WO,pre]
def gY (r:List Tok×Option Nat):WO 0 r=r:=by
 obtain ⟨l,e⟩:=r;have:l.map (Tok.sh 0)=l:=by
  conv=>rhs;rw [<-List.map_id l]
  congr 1;funext t;cases t;simp [Tok.sh]
 cases e<;>simp [WO,this]
def bL (a b:Nat) (r:List Tok×Option Nat):WO a (WO b r)=WO (b+a) r:=by
 obtain ⟨l,e⟩:=r;cases e<;>simp [WO,Tok.sh,Int.add_assoc,Nat.add_assoc]
def Uj (a u:lB) (p:Nat):(a++u).drop (a.length+p)=u.drop p:=by
 rw [List.drop_append];simp
def IG (a u:lB) : ∀(m p:Nat),u.length-p<=m->Bp (a++u) (a.length+p)=WO a.length (Bp u p):=by
 intro m
 induction m with
 | zero=>
  intro p h;rw [EM (by simp;omega),EM Aa];rfl
 | succ m U=>
  intro p h;by_cases M:p<u.length
  . have N:a.length+p<(a++u).length:=by simp;omega
    have f:=Uj a u p;by_cases F:(Aq (u.drop p)).2=0
    . rw [JD N (by rw [f];exact F),JD M F];simp [WO,Nat.add_comm]
    . have O:=U (p+(Aq (u.drop p)).2) Aa;by_cases L:(Aq (u.drop p)).1=4\/(Aq (u.drop p)).1=5
      . rw [Fm N (by rw [f];exact F) (by rw [f];exact L),Fm M F L,f,Nat.add_assoc];exact O
      . have E:(Aq (u.drop p)).1≠4/\(Aq (u.drop p)).1≠5:=⟨fun e=>L (jF e),fun e=>L (jG e)⟩
        rw [G5 N (by rw [f];exact F) (by rw [f];exact E.1) (by rw [f];exact E.2),G5 M F E.1 E.2,f,Nat.add_assoc,O,bK];congr 2;unfold Mc Tok.sh;rw [f];simp [Int.add_comm]
  . rw [EM (by simp;omega),EM Aa];rfl
def NZ (c:UInt8) (u:lB) (p:Nat):Bp (c::u) (1+p)=WO 1 (Bp u p):=IG [c] u _ p (jL _)
def gZ (c:UInt8):Prop:=Dn c=true\/c=35
def bM {c:UInt8} (h:gZ c):FH c=false/\B6 c=false/\singles.contains c=false/\c≠58/\c≠61/\c≠62/\c≠38/\c≠124:=by
 rcases h with h|rfl
 . have:c.toNat=32\/c.toNat=9\/c.toNat=13\/c.toNat=10:=by
    simp only [Dn,Bool.or_eq_true,decide_eq_true_eq] at h;omega
   have:c=32\/c=9\/c=13\/c=10:=by
    rcases this with h|h|h|h
    . exact jF (UInt8.toNat_inj.1 h)
    . exact jG (jF (UInt8.toNat_inj.1 h))
    . exact jG (jG (jF (UInt8.toNat_inj.1 h)))
    . exact jG (jG (jG (UInt8.toNat_inj.1 h)))
   rcases this with rfl|rfl|rfl|rfl<;>decide
 . decide
def SO {p:UInt8->Bool} {c:UInt8} (h:p c=false) (r u:lB):Er p (r++c::u)=Er p r:=by
 unfold Er
 induction r with
 | nil=>simp [h]
 | cons x r f=>
  simp only [jP,List.takeWhile_cons];split
  . simp [f]
  . rfl
def QT {c d:UInt8} (h:pairs.contains [c,d]=true):d=61\/d=38\/d=124:=by
 simp only [pairs,List.contains_cons,List.contains_nil,Bool.or_false,Bool.or_eq_true,beq_iff_eq,j9,and_true] at h;rcases h with ⟨_,rfl⟩|⟨_,rfl⟩|⟨_,rfl⟩|⟨_,rfl⟩|⟨_,rfl⟩|⟨_,rfl⟩|⟨_,rfl⟩|⟨_,rfl⟩|⟨_,rfl⟩|⟨_,rfl⟩<;>simp
def bN {s:lB} (h : ¬ 65536<s.length) (h1:(Bp s 0).2=none):Cq s=((Bp s 0).1,⟨0,0,0⟩):=by
 unfold Bp F9 at *;unfold Cq GZ;rw [At h];generalize CX (s.length+1) s 0 []=r at *;obtain ⟨l,e⟩:=r;cases e with
 | none=>rfl
 | some q=>simp [Jc] at h1
def WP (c:UInt8):pairs.contains [c]=false:=by
 cases hh:pairs.contains [c]
 . rfl
 . simp [pairs] at hh
inductive Pc where
 | tk (t:lB):Pc
 | sp (s:lB):Pc
def flat:List Pc->lB
 | []=>[]
 | .tk t::r=>t++flat r
 | .sp s::r=>s++flat r
def toks:List Pc->CS
 | []=>[]
 | .tk t::r=>t::toks r
 | .sp _::r=>toks r
def Br : ∀(a b:List Pc),flat (a++b)=flat a++flat b
 | [],b=>rfl
 | .tk t::r,b=>by simp only [jP,flat,Br r b,jS]
 | .sp t::r,b=>by simp only [jP,flat,Br r b,jS]
def Bs : ∀(a b:List Pc),toks (a++b)=toks a++toks b
 | [],b=>rfl
 | .tk t::r,b=>by simp only [jP,toks,Bs r b]
 | .sp t::r,b=>by simp only [jP,toks,Bs r b]
structure TokT (t:lB):Prop where
 ne:t≠[]
 len:(Aq t).2=t.length
 kind:(Aq t).1=1\/(Aq t).1=2\/(Aq t).1=3
structure Adj (t:lB) (c:UInt8):Prop where
 word:(Aq t).1=1->FH c=false
 num:(Aq t).1=2->B6 c=false
 sign:(Aq t).1=3->c≠61/\c≠62/\c≠38/\c≠124
def bO {t:lB} {c:UInt8} (h:gZ c):Adj t c:=by
 obtain ⟨h1,M,-,-,E,F,L,f⟩:=bM h;exact ⟨fun _=>h1,fun _=>M,fun _=>⟨E,F,L,f⟩⟩
def SP {c:UInt8} (f:c≠61) (E:c≠62) (F:c≠38) (h:c≠124) (r u:lB) (O:r≠[]):FI (r++c::u)=FI r:=by
 cases r with
 | nil=>exact absurd rfl O
 | cons x r=>
  cases r with
  | nil=>
   have U:pairs.contains [x,c]=false:=by
    cases hh:pairs.contains [x,c]
    . rfl
    . rcases QT hh with e|e|e
      . exact absurd e f
      . exact absurd e F
      . exact absurd e h
   have L:=WP x;have M:List.isPrefixOf [60,61,62] ([x]++c::u)=false:=by
    simp only [jP,km,List.isPrefixOf];have:(61==c)=false:=by simpa using fun e:61=c=>f e.symm
    simp [this]
   have N:List.isPrefixOf [60,61,62] [x]=false:=by simp [List.isPrefixOf]
   unfold FI;rw [M,N];simp only [jP,km,kK,List.take_zero,List.take_nil,U,L];rfl
  | cons y r=>
   have M:List.isPrefixOf [60,61,62] ((x::y::r)++c::u)=List.isPrefixOf [60,61,62] (x::y::r):=by
    cases r with
    | nil=>
     simp only [jP,km,List.isPrefixOf];have:(62==c)=false:=by simpa using fun e:62=c=>E e.symm
     simp [this]
    | cons z r=>simp [List.isPrefixOf]
   unfold FI;rw [M];rfl
def QU {t:lB} {c:UInt8} (V:TokT t) (h:Adj t c) (u:lB):Aq (t++c::u)=Aq t:=by
 obtain ⟨X,Z,L⟩:=V;cases t with
 | nil=>exact absurd rfl X
 | cons x r=>
  by_cases h1:CG x=true
  . have M:=h.word (by simp [Aq,h1]);have e:=SO M (x::r) u;simp only [jP] at e ⊢;simp only [Aq,h1,if_true,e]
  . have f:CG x=false:=by simpa using h1
    by_cases N:B6 x=true
    . have M:=h.num (by simp [Aq,f,N]);have e:=SO M (x::r) u;simp only [jP] at e ⊢;simp only [Aq,f,N,if_true,if_false,kx,e]
    . have E:B6 x=false:=by simpa using N
      by_cases U:Dn x=true
      . exfalso;rw [GJ U] at L;simp at L
      . have F:Dn x=false:=by simpa using U
        by_cases O:x=35
        . exfalso;subst O;rw [Ow] at L;simp at L
        . obtain ⟨a,b,Y,d⟩:=h.sign (by simp [Aq,f,E,F,O]);have e:=SP a b Y d (x::r) u Bg;simp only [jP] at e ⊢;simp only [Aq,f,E,F,O,if_false,kx,e]
def wf:Option lB->List Pc->Prop
 | _,[]=>True
 | p,.sp s::r=>(∀c∈s,Dn c=true)/\wf (if s.isEmpty then p else none) r
 | p,.tk t::r=>TokT t/\(∀t0∈p,∀c∈t.head?,Adj t0 c)/\wf (some t) r
def Ca:Option lB->List Pc->Option lB
 | p,[]=>p
 | p,.sp s::r=>Ca (if s.isEmpty then p else none) r
 | _,.tk t::r=>Ca (some t) r
def DK : ∀(a b:List Pc) (p:Option lB),wf p (a++b)↔wf p a/\wf (Ca p a) b
 | [],b,p=>by simp [wf,Ca]
 | .sp s::r,b,p=>by simp only [jP,wf,Ca,DK r b,and_assoc]
 | .tk t::r,b,p=>by simp only [jP,wf,Ca,DK r b,and_assoc]
def C6 : ∀(a b:List Pc) (p:Option lB),Ca p (a++b)=Ca (Ca p a) b
 | [],b,p=>rfl
 | .sp s::r,b,p=>by simp only [jP,Ca,C6 r b]
 | .tk t::r,b,p=>by simp only [jP,Ca,C6 r b]
def Vc : ∀(r:List Pc) (t:lB) (c:UInt8) (u:lB),wf (some t) r->flat r=c::u->Adj t c
 | [],t,c,u,_,h=>by cases h
 | .sp s::r,t,c,u,f,h=>by
  cases s with
  | nil=>exact Vc r t c u f.2 h
  | cons d s=>
   simp only [flat,jP,j9] at h;rw [<-h.1];exact bO (jF (f.1 d Bg))
 | .tk t'::r,t,c,u,f,h=>by
  cases t' with
  | nil=>exact absurd rfl f.1.ne
  | cons d s=>
   simp only [flat,jP,j9] at h;rw [<-h.1];exact f.2.1 t rfl d rfl
def Md : ∀(s u:lB),(∀c∈s,Dn c=true)->Bp (s++u) 0=WO s.length (Bp u 0)
 | [],u,_=>(gY _).symm
 | c::s,u,h=>by
  have h1:=Md s u (fun d E=>h d (by simp [E]));rw [jP,Mo (s:=c::(s++u)) (p:=0) Bg (h c Bg)];have f:=NZ c (s++u) 0;rw [Nat.add_comm] at f;rw [f,h1,bL];rfl
def Lw : ∀(L:List Pc) (p:Option lB),wf p L -> ∃us,Bp (flat L) 0=(us,none)/\Q1 us=toks L
 | [],p,_=>⟨[],EM (jN _),rfl⟩
 | .sp s::r,p,h=>by
  obtain ⟨us,h1,O⟩:=Lw r _ h.2;refine ⟨us.map (Tok.sh s.length),?_,?_⟩
  . show Bp (s++flat r) 0=_;rw [Md s _ h.1,h1];rfl
  . simp only [toks,<-O];simp [Q1,Tok.sh]
 | .tk t::r,p,h=>by
  obtain ⟨us,h1,O⟩:=Lw r _ h.2.2;have E:Aq (t++flat r)=Aq t:=by
   cases hr:flat r with
   | nil=>simp
   | cons c u=>exact QU h.1 (Vc r t c u h.2.2 hr) u
  have f:(t++flat r).drop 0=t++flat r:=rfl;have U:=h.1.len;have F:t.length≠0:=fun e=>h.1.ne (List.eq_nil_of_length_eq_zero e)
  have M:(Aq t).1≠4/\(Aq t).1≠5:=by rcases h.1.kind with e|e|e<;>rw [e]<;>decide
  have V:=G5 (s:=t++flat r) (p:=0) (by simp;omega) (by rw [f,E,U];exact F) (by rw [f,E];exact M.1) (by rw [f,E];exact M.2);have N:=IG t (flat r) _ 0 (jL _);rw [Nat.add_zero] at N;have X:(Mc (t++flat r) 0).text=t:=by unfold Mc;rw [f,E,U];simp
  refine ⟨Mc (t++flat r) 0::us.map (Tok.sh t.length),?_,?_⟩
  . show Bp (t++flat r) 0=_;rw [V,f,E,U,Nat.zero_add,N,h1];rfl
  . simp only [toks,<-O];simp [Q1,Tok.sh,X]
def Cy {m:lB} (h:AU m=true):TokT m/\(Aq m).1=1:=by
 simp only [AU,jA,beq_iff_eq,Bool.not_eq_true',decide_eq_true_eq] at h;obtain ⟨⟨⟨⟨h1,F⟩,f⟩,E⟩,L⟩:=h;refine ⟨⟨?_,E,jF f⟩,f⟩;rintro rfl;simp at h1
def GT {m:lB} (h:AU m=true) : ∀c∈m.head?,CG c=true:=by
 intro c E;cases m with
 | nil=>cases E
 | cons x r=>
  have:x=c:=by simpa using E
  subst this;have f:=(Cy h).2;cases hl:CG x
  . exfalso;simp only [Aq,hl,if_false,kx] at f;split at f
    . simp at f
    . split at f
      . simp at f
      . split at f<;>simp at f
  . rfl
def KT (u:Nat):A8 (Lib.decDigits u)=u/\(∀c∈Lib.decDigits u,B6 c=true)/\Lib.decDigits u≠[]:=by
 induction u using Nat.strongRecOn with
 | _ u M=>
  have F : ∀k,k<10->(UInt8.ofNat (48+k)).toNat=48+k:=fun k L=>by rw [UInt8.toNat_ofNat'];omega
  have f : ∀k,k<10->B6 (UInt8.ofNat (48+k))=true:=fun k L=>by
   simp only [B6,F k L,jA,decide_eq_true_eq];omega
  rw [Lib.decDigits];split
  . rename_i h;refine ⟨?_,?_,Bg⟩
    . unfold A8;simp only [List.foldl_cons,List.foldl_nil,F u h];omega
    . intro c E;have:c=UInt8.ofNat (48+u):=by simpa using E
      subst this;exact f u h
  . rename_i h;obtain ⟨h1,N,O⟩:=M (u/10) Aa;refine ⟨?_,?_,Bg⟩
    . unfold A8 at *;rw [List.foldl_append,h1];simp only [List.foldl_cons,List.foldl_nil,F (u%10) Aa];omega
    . intro c E;rcases List.mem_append.1 E with E|E
      . exact N c E
      . have:c=UInt8.ofNat (48+u%10):=by simpa using E
        subst this;exact f _ Aa
def Hy {n:Int} (h:0<=n):Lib.itoa n=Lib.decDigits n.toNat:=by unfold Lib.itoa;rw [At Aa]
def PL {p:UInt8->Bool} : ∀(s:lB),(∀c∈s,p c=true)->Er p s=s.length
 | [],_=>rfl
 | c::r,h=>by
  have:=PL r (fun d f=>h d (by simp [f]));unfold Er at *;rw [List.takeWhile_cons,AH (h c Bg),jz,jz,this]
def N0 {f:lB} (E:f≠[]) (h : ∀c∈f,B6 c=true):TokT f/\(Aq f).1=2:=by
 have:Aq f=(2,f.length):=by
  cases f with
  | nil=>exact absurd rfl E
  | cons c r=>
   have F:=h c Bg;have L:CG c=false:=by
    cases L:CG c
    . rfl
    . rw [KB c L] at F;cases F
   have M:=PL (p:=B6) (c::r) h;simp only [Aq,L,F,if_true,if_false,kx,M]
 exact ⟨⟨E,by rw [this],by rw [this];exact jG (jF rfl)⟩,by rw [this]⟩
def pw (b:Bool) (L:List Pc):List Pc:=if b then .tk [40]::(L++[.tk [41]]) else L
def Vd (b:Bool) (L:List Pc):flat (pw b L)=wrap (flat L) b:=by
 unfold pw wrap;cases b
 . rfl
 . simp only [if_true,flat,Br,kB];simp
def bQ (b:Bool) (L:List Pc):toks (pw b L)=if b then [40]::(toks L++[[41]]) else toks L:=by
 unfold pw;cases b
 . rfl
 . simp only [if_true,toks,Bs]
def N1 (p:Option lB):Prop:= ∀t∈p,(Aq t).1=3
def G6 (t:lB):Prop:=Adj t 41/\Adj t 93/\Adj t 59/\Adj t 44
def Ek {m:lB} (h:(Aq m).1=1):G6 m:=by
 refine ⟨?_,?_,?_,?_⟩<;>exact ⟨fun _=>Ao,fun e=>(by rw [h] at e;cases e),fun e=>(by rw [h] at e;cases e)⟩
def N2 {m:lB} (h:(Aq m).1=2):G6 m:=by
 refine ⟨?_,?_,?_,?_⟩<;>exact ⟨fun e=>(by rw [h] at e;cases e),fun _=>Ao,fun e=>(by rw [h] at e;cases e)⟩
def DM {m:lB} (h:(Aq m).1=3):G6 m:=by
 refine ⟨?_,?_,?_,?_⟩<;>exact ⟨fun e=>(by rw [h] at e;cases e),fun e=>(by rw [h] at e;cases e),fun _=>Ao⟩
def El {t:lB} {c:UInt8} (h:(Aq t).1=3) (f:c≠61/\c≠62/\c≠38/\c≠124):Adj t c:=⟨fun e=>(by rw [h] at e;cases e),fun e=>(by rw [h] at e;cases e),fun _=>f⟩
def FW {c:UInt8} (h:CG c=true):c≠61/\c≠62/\c≠38/\c≠124:=by
 simp only [CG,jA,decide_eq_true_eq] at h;refine ⟨?_,?_,?_,?_⟩<;>(rintro rfl;simp at h)
def N3 {c:UInt8} (h:B6 c=true):c≠61/\c≠62/\c≠38/\c≠124:=by
 simp only [B6,jA,decide_eq_true_eq] at h;refine ⟨?_,?_,?_,?_⟩<;>(rintro rfl;simp at h)
def A6 {t:lB} (h:(!t.isEmpty&&((Aq t).2==t.length)&&(((Aq t).1==1)||((Aq t).1==3)))=true):TokT t:=by
 simp only [jA,Bool.or_eq_true,beq_iff_eq,Bool.not_eq_true'] at h;obtain ⟨⟨h1,E⟩,f⟩:=h;refine ⟨by rintro rfl;simp at h1,E,?_⟩;rcases f with f|f
 . exact jF f
 . exact jG (jG f)
def N4 {k:Int} (f:6<=k) (h1:k<=23):TokT (Cm k)/\(Aq (Cm k)).1=3:=by
 have:k=6\/k=7\/k=8\/k=9\/k=10\/k=11\/k=12\/k=13\/k=14\/k=15\/k=16\/k=17\/k=18\/k=19\/k=20\/k=21\/k=22\/k=23:=by omega
 rcases this with rfl|rfl|rfl|rfl|rfl|rfl|rfl|rfl|rfl|rfl|rfl|rfl|rfl|rfl|rfl|rfl|rfl|rfl<;>exact ⟨A6 Ao,Ao⟩
structure Nice (L:List Pc):Prop where
 wf : ∀p,N1 p->wf p L
 fin : ∀p,∃t,Ca p L=some t/\G6 t
def Ix {t:lB} (h:(Aq t).1=3):N1 (some t):=fun u f=>by
 have:t=u:=by simpa using f
 rw [<-this];exact h
def Dz:N1 none:=fun u f=>by cases f
def Nice.par {L:List Pc} (h:Nice L):Nice (.tk [40]::(L++[.tk [41]])):=by
 have E:TokT [40]:=A6 Ao;have F:TokT [41]:=A6 Ao;refine ⟨fun p M=>⟨E,fun t N c f=>?_,?_⟩,fun p=>?_⟩
 . have:c=40:=by simpa using f.symm
   subst this;exact El (M t N) Ao
 . rw [DK];refine ⟨h.wf _ (Ix Ao),?_⟩;obtain ⟨t,e,O⟩:=h.fin (some [40]);rw [e];exact ⟨F,fun u U c f=>by
    have:c=41:=by simpa using f.symm
    have:t=u:=by simpa using U
    subst_vars;exact O.1,trivial⟩
 . refine ⟨[41],?_,DM Ao⟩;simp only [Ca,C6]
def Nice.pw {L:List Pc} (h:Nice L) (b:Bool):Nice (pw b L):=by
 unfold Bk.pw;cases b
 . exact h
 . exact h.par
def SQ {t:lB} (h:TokT t) (E : ∀c∈t.head?,c≠61/\c≠62/\c≠38/\c≠124) (f:G6 t):Nice [.tk t]:=
 ⟨fun p F=>⟨h,fun u L c f=>El (F u L) (E c f),trivial⟩,fun p=>⟨t,rfl,f⟩⟩
def bR {t:lB} {q:UInt8->Prop} (h : ∀c∈t,q c) : ∀c∈t.head?,q c:=fun c f=>by
 cases t with
 | nil=>cases f
 | cons x r=>
  have:x=c:=by simpa using f
  subst this;exact h x Bg
end Bk
