/- Texts that the proofs of ExerciseCut need. No condition. (Part 7 of 8.) -/
import Derived.Test.YtjkgmpljepnmiaaGreatDoorPEcCut6
set_option linter.unusedSimpArgs false
set_option linter.unusedVariables false
set_option linter.defProp false
set_option maxRecDepth 100000
set_option maxHeartbeats 4000000
open Go.Proofs.Tryz
open List renaming length_append->j9,length_cons->kf,getElem?_eq_getElem->kg,length_nil->ki,getElem_cons_succ->km,getElem_mem->kq,set_cons_zero->kx,take_succ_eq_append_getElem->ky,append_assoc->kA,cons_append->kD,take_length->kE,mem_cons->kF,not_mem_nil->kI,getElem?_eq_none->kO,length_take->kU,replicate->kV,take_append_drop->lf,flatten_cons->lg,drop_eq_getElem_cons->lh,nil_append->lk,append_nil->ll,take_succ_cons->lo,isEmpty_iff->lq,map_cons->lr,mem_cons_of_mem->lx,all_eq_true->lG,getElem?_append_right->lH,getElem?_append_left->lI,mem_singleton->lM
open Bool renaming and_eq_true->ke,false_eq_true->lj
open Go.Lib renaming hid->kh,indexByte->li
open Or renaming inl->kj,inr->kp
open Go.Result renaming andThen->kn,andThen_ok->lw
open Nat renaming le_refl->kv,zero_le->kC,blt->kH,lt_or_ge->kK,le_trans->kW,le_of_ble_eq_true->kY,eq_of_beq_eq_true->ln,ble->lD,beq->lE
open Option.some renaming injEq->kz,inj->kG
open Go.Sem renaming run_bind->kB,run_pure->kJ
open Go renaming Calls->kL
open Go.IntWalk renaming i64_in->kN
open Go.Region renaming ready->kP,binds->lF
open List.cons renaming injEq->kQ
open Go.Value.slice renaming injEq->kT
open Prod.mk renaming injEq->kX
open Go.DataW renaming trod->kZ
open Array renaming getElem?_eq_none->ld
open Go.Value renaming slice->lm,ownBlock->lp
open Go.Addr renaming add->lA
open Go.Oper renaming wp->lJ
open Bk.Ext renaming refl->lN
open Bk.Nd renaming size->lR,kind->lZ,kids->l9,name->md,num->mj,val->ml,isExpr->mu,isPlace->my,isStmt->mz
open Bk.Row renaming ext->mf,at0->mx
open Bk.Le renaming refl->mp
open Bk.Arr renaming get->mq
namespace Bk
open Go Go.RowKit Go.Proofs
def B8 (s:lB):List lB:=Lib.split s [32]
def PR (f:lB) : ∀(k:Nat) (s x:lB),x∈Lib.splitK f 0 k s->x.length<=s.length
 | 0,s,x,h=>by simp only [Lib.splitK,lM] at h;subst h;exact kv _
 | k+1,s,x,h=>by
  rw [Lib.splitK] at h;split at h
  . simp only [lM] at h;subst h;exact kv _
  . rcases kF.1 h with h|h
    . rw [h,kU];omega
    . have:=PR f k _ x h;rw [List.length_drop] at this;omega
def Zi {s x:lB} (h:x∈B8 s):x.length<=s.length:=PR _ _ s x h
def SplitR (s:lB) (w:wD):Ending->wD->Prop:=fun e w'=> ∃b,e = .returned (.slice (some ⟨b,0,none⟩) (B8 s).length (B8 s).length)/\Blk w' b ((B8 s).map str)/\w.heap.size<=b/\b<w'.heap.size/\Ext w w'
def SplitR.ret {s:lB} {w w':wD} {e:Ending} (h:SplitR s w e w') : ∃v,e = .returned v:=by
 obtain ⟨_,h,-⟩:=h;exact ⟨_,h⟩
def cE (s:lB) (N:s.length<=1000000) (w:wD) (h:Errs2 w):Calls prog 110 #[str s,str [32]] w (SplitR s w):=by
 obtain ⟨-,-,m,F⟩:=h;refine (Tryz.strings_Split ⟨s.toArray⟩ ⟨#[32]⟩ m w (by rw [DR];omega) F Ao).mono ?_;rintro e w' ⟨rfl,rfl⟩;have L:(B8 s).length=Lib.countB ⟨s.toArray⟩ ⟨#[32]⟩+1:=by
  have h1:=Lib.splitB_all ⟨#[32]⟩ Ao 0 _ ⟨s.toArray⟩ rfl;have f:=congrArg List.length (Lib.splitB_data ⟨#[32]⟩ 0 (Lib.countB ⟨s.toArray⟩ ⟨#[32]⟩) ⟨s.toArray⟩);rw [List.length_map,h1] at f;exact f.symm
 have M:(Lib.splitB ⟨#[32]⟩ 0 (Lib.countB ⟨s.toArray⟩ ⟨#[32]⟩) ⟨s.toArray⟩).map Value.string=(B8 s).map str:=by
  have f:=Lib.splitB_data ⟨#[32]⟩ 0 (Lib.countB ⟨s.toArray⟩ ⟨#[32]⟩) ⟨s.toArray⟩;have E:=congrArg (List.map str) f;rw [List.map_map] at E;exact E
 refine ⟨w.heap.size,by rw [L],⟨9,?_⟩,kv _,?_,(lN w).alloc _⟩
 . rw [<-M];simp only [World.alloc,Array.getElem?_push_size]
 . show w.heap.size<(w.heap.push _).size;rw [Array.size_push];omega
def EH (s:lB):lB×lB×Bool:=Lib.cut s [10]
def jg (s:lB) (E:s.length<=1000000) (w:wD) (h:Errs2 w):Calls prog 69 #[str s,str [10]] w fun e w'=>e = .returned (.tuple #[str (EH s).1,str (EH s).2.1,.bool (EH s).2.2])/\Ext w w':=by
 obtain ⟨-,-,m,f⟩:=h;refine (Tryz.strings_Cut ⟨s.toArray⟩ ⟨#[10]⟩ m w (by rw [DR];omega) f).mono ?_;rintro e w' ⟨rfl,n,rfl⟩;exact ⟨rfl,Wu w n⟩
def hwords:List lB:=[[112,111,105,110,116,115],[102,117,101,108],[118,97,108,117,101],[108,101,110,103,116,104],[105,110,112,117,116],[108,105,110,101,115]]
def DD (ws:List lB) (i:Nat):Int:=(H5 (ws.getD (3+2*i) [])).1
def S3 (ws:List lB) (i:Nat):Prop:=ws.getD (2+2*i) []=hwords.getD i []/\(H5 (ws.getD (3+2*i) [])).2=true
instance (ws:List lB) (i:Nat):Decidable (S3 ws i):=by unfold S3;infer_instance
def PT (ws:List lB):Prop:=ws.length=14/\ws.getD 0 []=[101,120,101,114,99,105,115,101]/\AS (ws.getD 1 [])=true /\ ∀i,i<6->S3 ws i
instance (ws:List lB):Decidable (PT ws):=by unfold PT;infer_instance
def PU (ws:List lB) (j:Nat):EX:=⟨ws.getD 1 [],if 0<j then DD ws 0 else 0,if 1<j then DD ws 1 else 0,⟨if 2<j then DD ws 2 else 0,if 3<j then DD ws 3 else 0,if 4<j then DD ws 4 else 0⟩,YV⟩
def eP (ws:List lB):EX:=PU ws 6
def zeroEX:EX:=⟨[],0,0,⟨0,0,0⟩,YV⟩
def EX.cells0 (e:EX):lV:=e.cells none 0 none 0 none 0
def S4 (ws:List lB):Value:=if PT ws then .tuple #[.agg (eP ws).cells0.toArray,.int .i64 (DD ws 5),.bool true] else .tuple #[.agg zeroEX.cells0.toArray,.int .i64 0,.bool false]
def Xe (f:List lB) (j:Nat) (h:j<5):(PU f j).cells0.set (1+j) (.int .i64 (DD f j))=(PU f (j+1)).cells0:=by
 rcases (show j=0\/j=1\/j=2\/j=3\/j=4 by omega) with rfl|rfl|rfl|rfl|rfl<;>rfl
def Uv (s:lB):0<=(H5 s).1/\(H5 s).1<=1000000000:=by
 unfold H5;split
 . split
   . rename_i h;exact h.1
   . simp
 . simp
def Xf (f E:Nat) (w:wD) (g:Nat) (F:Blk w g (FF f E)) (j:Nat) (L:j<5):Row w ⟨g,0+j*2,none⟩ [str (hwords.getD j []),.pointer (some ⟨f,1+j,none⟩)]:=by
 have h:=F.row.sub (j*2) 2;rcases (show j=0\/j=1\/j=2\/j=3\/j=4 by omega) with rfl|rfl|rfl|rfl|rfl<;>exact h
def Uw (h f:Nat) (w:wD) (g:Nat) (E:Blk w g (FF h f)):Row w ⟨g,0+5*2,none⟩ [str (hwords.getD 5 []),.pointer (some ⟨f,0,none⟩)]:=E.row.sub (5*2) 2
def Mm {P:Program} {m:Nat} {l:Sl} {tab:Tab} {ty:TypeId} {w:wD} {x y:Operand} {t g i:Nat} {s:Sk} {vs:lV} {u:Int} (TT:TabOk P tab) (ht:AC tab t=some (s,1)) (hx:ev l x=some (.pointer (some ⟨g,i,none⟩))) (hy:ev l y=some (.int .i64 u))
 (hb:Blk w g vs) (hi:i<vs.length) :
 Ce P m l (.store t x y) ty w (Nl fun w'=>Blk w' g (vs.set i (.int .i64 u))/\Fr (· = g) w w'/\w'.heap.size=w.heap.size):=by
 have hd:=Ie (P:=P) (n:=m) (l:=l) (ty:=ty) (us:=[.int .i64 u]) TT ht hx hy rfl rfl rfl hb (by rw [Nat.ble_eq];simp;omega);unfold Ce at hd ⊢;intro a dst pos after gd next Q ha hn b;refine hd a dst pos after gd next Q ha (fun v' w' h=>h.elim) (fun w' hP=>b w' ⟨?_,hP.fr,hP.size⟩);have h1:=hP.blk;simpa [Bh] using h1
attribute [local irreducible] Go.Calls
def JE {w:wD} {b:Nat} {f:List lB} (h:Blk w b (f.map str)) (i:Nat) (F:i<f.length):Row w ⟨b,i,none⟩ [str (f.getD i [])]:=fun k v E=>by
 match k,E with
 | 0,E=>
  simp only [List.getElem?_cons_zero,kz] at E;subst E;have:=h.row.at (i:=i) (v:=str (f.getD i [])) (by rw [List.getElem?_map,kg F,List.getD_eq_getElem?_getD,kg F];rfl);simpa [lA] using this
def Vy {s:lB} (i:Nat):((B8 s).getD i []).length<=s.length:=by
 rw [List.getD_eq_getElem?_getD];cases h:(B8 s)[i]? with
 | none=>simp
 | some x=>exact Zi (List.mem_of_getElem? h)
set_option maxHeartbeats 8000000 in
def Rd (s:List UInt8) (hs:s.length<=1000000) (w:World) (F:Errs2 w) (E:TabsF w) :
 Calls prog 70 #[str s] w fun r w'=>r = .returned (S4 (B8 s))/\Ext w w':=by
 have X:=lN w;have c4:=E.g;have HF:=kh (fun eb lb w1=>SJ eb lb w1);have HS:=kh (fun w1 h=>cE s hs w1 h);have HL:=kh (fun i=>Vy (s:=s) i)
 have c5:(B8 s).length<=1000002:=by
  have h1:(B8 s).length<=Lib.count s [32]+1:=by
   have:=congrArg List.length (Lib.splitB_data ⟨#[32]⟩ 0 (Lib.count s [32]) ⟨s.toArray⟩);have h2:=Lib.splitB_length_le ⟨#[32]⟩ 0 (Lib.count s [32]) ⟨s.toArray⟩;rw [List.length_map] at this;have h3:(B8 s).length=(Lib.splitB ⟨#[32]⟩ 0 (Lib.count s [32]) ⟨s.toArray⟩).length:=this.symm
   omega
  have h4:Lib.count s [32]<=s.length:=by rw [Lib.count_one];exact List.count_le_length
  omega
 refine Ae func70 ntmps70 rfl rfl ?_
 refine cS ?_;refine eA [_,_,_,_,_,_,_,_,_,_,_,_] ?_;intro b1 w2 h5 x6 p7 z8;revert F E X;refine eE x6 ?_;intro F E X;clear x6;refine C1 Pa (C1 Pa (cN ?_));refine eA [_,_,_,_,_,_,_,_,_,_,_,_] ?_;intro b9 c6 U bp c7 c8;revert h5 F E X;refine eE bp ?_;intro h5 F E X;clear bp;refine cN ?_;refine Hm [_] C9 rfl rfl ?_;intro ax ch bq;refine eI [_] bq ?_;clear bq ch;intro c9 V br da db;revert U h5 F E X;refine eE br ?_;intro U h5 F E X;clear br;refine cN ?_;refine eQ rfl (HF.out _ _ _) ?_;rintro _ dc ⟨ay,⟨⟨⟩,⟨Y,⟨dd,bi⟩⟩⟩⟩;have de:=bi.size;revert V U h5 F E X;refine eE bi ?_;intro V U h5 F E X;clear bi;refine C1 Pa (cN (C1 Mv ?_));refine eQ rfl (HS.out _ Af) ?_;rintro _ df ⟨a0,⟨⟨⟩,⟨Z,⟨dg,⟨dh,bj⟩⟩⟩⟩⟩;have z37:=bj.size;revert Y V U h5 F E X;refine eE bj ?_;intro Y V U h5 F E X;clear bj;refine C1 Pa (cT (Al ?_))
 clear HF HS
 generalize B8 s=ws at *
 rcases (Decidable.em (ws.length=14)).symm with hl|hl
 . have e:S4 ws = .tuple #[.agg zeroEX.cells0.toArray,.int .i64 0,.bool false]:=At (fun h=>hl h.1);rw [e]
   refine cS (C1 Mv (C1 Pz (C1 Mv (C1 Pz ?_))));refine C1 (Eo rfl rfl (kN _ Aa)) ?_;refine C1 V7 (C1 V2 (C1 Mv (iI (iI (iI (iI (C1 V0 (C1 Mv (Bb rfl rfl rfl (rfl) rfl (Bb rfl rfl rfl (rfl) rfl (Bb rfl rfl rfl (rfl) rfl ?_)))))))))));refine Bb rfl rfl rfl (rfl) rfl (Bb rfl rfl rfl (rfl) rfl (C1 (Cm rfl rfl rfl) (cT (CS rfl (cS (C1 (DS [_,_,_,_,_,_,_,_,_,_,_,_] Ab C9 rfl rfl rfl rfl) ?_))))));refine eS [_,_,_,_,_,_,_,_,_,_,_,_] h5 ?_;intro di ci bs dk;clear h5;revert Y V U F E X Z;refine eF bs ?_;intro Y V U F E X Z;clear bs;refine C1 Pa (C1 Pa (cT (BO (AL (Dc rfl Ab rfl rfl rfl ci rfl rfl rfl ?_)))))
   exact ⟨rfl,X⟩
 have r0:=JE Z 0 Aa;have r1:=JE Z 1 Aa;have bt:=HL.out 1
 rcases (Decidable.em (ws.getD 0 []=[101,120,101,114,99,105,115,101])).symm with h0|h0
 . have e:S4 ws = .tuple #[.agg zeroEX.cells0.toArray,.int .i64 0,.bool false]:=At (fun h=>h0 h.2.1);rw [e];clear e bt r1
   generalize ws.getD 0 []=x0 at *
   refine cS (C1 Mv (C1 Pz (C1 Mv (C1 Pz ?_))));refine C1 (Eo rfl rfl (kN _ Aa)) ?_;refine C1 V7 (C1 V2 (C1 Mv (LX (C1 Mv (LX (C1 Pi (LX (C1 (Pw r0) (LX (C1 V9 (C1 O2 ?_)))))))))));refine C1 Mv (Wa (Wa (Wa (Wa (Wa (C1 ZO (cT (CS rfl (cS (C1 (DS [_,_,_,_,_,_,_,_,_,_,_,_] Ab C9 rfl rfl rfl rfl) ?_))))))))));refine eS [_,_,_,_,_,_,_,_,_,_,_,_] h5 ?_;intro dl cj bu dm;clear h5;revert Y V U F E X Z r0;refine eF bu ?_;intro Y V U F E X Z r0;clear bu;refine C1 Pa (C1 Pa (cT (BO (AL (Dc rfl Ab rfl rfl rfl cj rfl rfl rfl ?_)))))
   exact ⟨rfl,X⟩
 rw [h0] at r0;have HN:=kh (fun w1=>Ip (ws.getD 1 []) w1 Aa)
 cases hnm:AS (ws.getD 1 [])
 . have e:S4 ws = .tuple #[.agg zeroEX.cells0.toArray,.int .i64 0,.bool false]:=At (fun h=>by have:=h.2.2.1;rw [hnm] at this;cases this);rw [e];rw [hnm] at HN;clear e bt hnm
   generalize ws.getD 1 []=x1 at *
   refine cS (C1 Mv (C1 Pz (C1 Mv (C1 Pz ?_))));refine C1 (Eo rfl rfl (kN _ Aa)) ?_;refine C1 V7 (C1 V2 (C1 Mv (LX (C1 Mv (LX (C1 Pi (LX (C1 (Pw r0) (LX (C1 V9 (C1 O2 ?_)))))))))));refine C1 Mv (Kt (C1 Mv (Kt (C1 Pi (Kt (C1 (js r1) (Kt (cC rfl (HN.out _) ?_))))))));rintro _ dn ⟨⟨⟩,bk⟩;have dp:=bk.size;revert Y V U h5 F E X Z r0 r1;refine eE bk ?_;intro Y V U h5 F E X Z r0 r1;clear bk;refine Kt (C1 Pt (C1 ZP (cT (CS rfl (cS (C1 (DS [_,_,_,_,_,_,_,_,_,_,_,_] Ab C9 rfl rfl rfl rfl) ?_))))));refine eS [_,_,_,_,_,_,_,_,_,_,_,_] h5 ?_;intro dq ck bv dr;clear h5;revert Y V U F E X Z r0 r1;refine eF bv ?_;intro Y V U F E X Z r0 r1;clear bv;refine C1 Pa (C1 Pa (cT (BO (AL (Dc rfl Ab rfl rfl rfl ck rfl rfl rfl ?_)))))
   exact ⟨rfl,X⟩
 rw [hnm] at HN
 refine cS (C1 Mv (C1 Pz (C1 Mv (C1 Pz ?_))));refine C1 (Eo rfl rfl (kN _ Aa)) ?_;refine C1 V7 (C1 V2 (C1 Mv (LX (C1 Mv (LX (C1 Pi (LX (C1 (Pw r0) (LX (C1 V9 (C1 O2 ?_)))))))))));refine C1 Mv (Kt (C1 Mv (Kt (C1 Pi (Kt (C1 (js r1) (Kt (cC rfl (HN.out _) ?_))))))));rintro _ ds ⟨⟨⟩,bm⟩;have dt:=bm.size;revert Y V U h5 F E X Z r0 r1;refine eE bm ?_;intro Y V U h5 F E X Z r0 r1;clear bm;refine Kt (C1 Pt (C1 ZP (cT (CT rfl (Av (Ai (cS (C1 Mv (C1 Pi (C1 (js r1) (C1 Pg ?_)))))))))));refine eV [_] [_,_,_,_,_,_,_,_,_,_,_,_] U ?_;intro du bw bx dv;clear U;revert Y V h5 F E X Z r0 r1;refine eF bx ?_;intro Y V h5 F E X Z r0 r1;clear bx;refine cT (Al (cS (C1 Mv (C1 Pz (C1 Mv (cT ?_))))))
 refine Ax ?_;refine AM (ι:=Nat) (fun j=>[(2,.pointer (some ⟨b1,0,none⟩)),(5,.pointer (some ⟨b9,0,none⟩)),(6,.pointer (some ⟨ax,0,none⟩)),(8,.slice (some ⟨a0,0,none⟩) ws.length ws.length),(43,.slice (some ⟨ay,0,none⟩) 6 6),(44,.int .i64 6),(45,.int .i64 j)])
  (fun j w'=>j<=6/\(∀i,i<j->S3 ws i)/\Blk w' b9 (PU ws j).cells0/\Blk w' ax [.int .i64 (if 5<j then DD ws 5 else 0)]/\Blk w' b1 zeroEX.cells0/\Blk w' ay (FF b9 ax)/\Blk w' a0 (ws.map str)/\Errs2 w'/\TabsF w'/\Ext w w'/\ay<w'.heap.size/\a0<w'.heap.size)
  (fun j=>6-j) 0 sB ⟨kC _,fun i h=>absurd h Aa,bw,V,h5,Y,Z,F,E,X,Y.lt,Z.lt⟩ ?_
 clear bw V h5 Y Z F E X r0 r1 HN;rintro j w3 ⟨hj,hq,N,f,h1,L,M,F,E,X,dw,dx⟩;have HQ:=kh hq;clear hq;have hz:=X.size
 by_cases cl:j<6
 . have ra:Row w3 ⟨a0,0+((2:Int)+2*(j:Int)).toNat*1,none⟩ [str (ws.getD (2+2*j) [])]:=by rw [show 0+((2:Int)+2*(j:Int)).toNat*1=2+2*j from by omega];exact JE M (2+2*j) Aa
   have rb:Row w3 ⟨a0,0+((3:Int)+2*(j:Int)).toNat*1,none⟩ [str (ws.getD (3+2*j) [])]:=by rw [show 0+((3:Int)+2*(j:Int)).toNat*1=3+2*j from by omega];exact JE M (3+2*j) Aa
   have bn:=HL.out (3+2*j)
   have a1:S3 ws j -> ∀i,i<j+1->S3 ws i:=fun h i hi=>by
    rcases kK i j with h1|h1
    . exact HQ.out i h1
    . obtain rfl:i=j:=by omega
      exact h
   have az : ¬S3 ws j->S4 ws = .tuple #[.agg zeroEX.cells0.toArray,.int .i64 0,.bool false]:=fun h=>At (fun h'=>h (h'.2.2.2 j cl))
   obtain ⟨fb,fo,O,hf⟩ : ∃fb fo,Row w3 ⟨ay,0+j*2,none⟩ [str (hwords.getD j []),.pointer (some ⟨fb,fo,none⟩)]/\(j<5/\fb=b9/\fo=1+j\/j=5/\fb=ax/\fo=0):=by
    rcases kK j 5 with h|h
    . exact ⟨_,_,Xf b9 ax w3 ay L j h,kj ⟨h,rfl,rfl⟩⟩
    . obtain rfl:j=5:=by omega
      exact ⟨_,_,Uw b9 ax w3 ay L,kp ⟨rfl,rfl,rfl⟩⟩
   have HU:=kh (fun w1 h1 h2=>Uo (ws.getD (3+2*j) []) Aa w1 h1 h2)
   unfold S3 at a1 az
   have bo:DD ws j=(H5 (ws.getD (3+2*j) [])).1:=rfl
   have ar:j<5->(PU ws j).cells0.set (1+j) (.int .i64 (H5 (ws.getD (3+2*j) [])).1)=(PU ws (j+1)).cells0:=fun h=>Xe ws j h
   generalize ws.getD (2+2*j) []=xa at *
   generalize ws.getD (3+2*j) []=xb at *
   generalize hwords.getD j []=wd at *
   by_cases hw:xa=wd
   . subst hw
     cases hn:(H5 xb).2
     . rw [az (fun h=>by rw [hn] at h;cases h.2)];rw [hn] at HU;clear a1 az bo ar hn bn
       generalize (H5 xb).1=nn at *
       refine cS (C1 V3 (cT (Al (fE (Av (Ai (Al (Ax (cS (C1 Mv (C1 Pi ?_)))))))))));refine C1 (XU O) ?_;refine eA [_,_] ?_;intro dy dz bz b0 d0 d1;revert N f h1 L M F E X ra rb O;refine eE b0 ?_;intro N f h1 L M F E X ra rb O;clear b0;refine C1 Pa ?_;refine eS [_,_] bz ?_;intro b2 ac bc cn;clear bz;revert N f h1 L M F E X ra rb O;refine eF bc ?_;intro N f h1 L M F E X ra rb O;clear bc;refine cT (Al ?_);refine AE (fun wz=>Ext b2 wz) 13 (.pure 0 (.pure 1 (.pure 2 (.pure 3 (.pure 4 (.pure 5 (.pure 6 (.pure 7 (.pure 8 (.pure 9 (.pure 10 (.pure 11 (.pure 12 .tail))))))))))))) mixed BD (Ac (Ak (Ac (Ac (Ak (Ac An)))))) ?_;intro b3 au _;have ao:(fun wz=>Ext b2 wz) b3:=au;simp only at ao;have a5:=ac;have ad:=N;have aa:=f;have ah:=h1;have ai:=L;have aj:=M;have ak:=F;have al:=E;have ae:=ra;have af:=rb;have an:=O;have co:=au.size;revert ac N f h1 L M F E X ra rb O;refine eE au ?_;intro ac N f h1 L M F E X ra rb O;clear au;refine ⟨ao,?_⟩;refine Tq rfl Mv (Tq rfl Mv ?_);refine Tq rfl (Eo rfl rfl (kN _ Aa)) ?_;refine Tq rfl V7 (Tq rfl Pi (Tq rfl (AA Ab rfl rfl rfl (fun wz hz=>mx (mf ae hz) rfl)) (Tq rfl Mv (Tq rfl Mv ?_))));refine Tq rfl (Eo rfl rfl (kN _ Aa)) ?_
       refine Tq rfl V7 (Tq rfl Pi (Tq rfl (AA Ab rfl rfl rfl (fun wz hz=>mx (mf af hz) rfl)) (Tq rfl Pa ?_)));clear ao a5 ad aa ah ai aj ak al ae af an;refine AI rfl (C1 Pa (cN (C1 Mv ?_)));refine cC rfl (HU.out _ Af Af) ?_;rintro _ cp ⟨⟨⟩,a2⟩;have cq:=a2.size;revert ac N f h1 L M F E X ra rb O;refine eE a2 ?_;intro ac N f h1 L M F E X ra rb O;clear a2;refine C1 Mv (C1 Px (C1 Px (C1 Pa (C1 Pa (cT (Al (cS (C1 Mv (C1 Pg (C1 (Pl ac) (C1 V9 ?_)))))))))));refine C1 Mv (Bl rfl rfl rfl (EG (not_not_intro rfl)) (C1 Mv (Bl rfl rfl rfl (EG (not_not_intro rfl)) (C1 Pt (C1 (Qn (not_not_intro rfl)) (cT (CS rfl (cS (C1 (DS [_,_,_,_,_,_,_,_,_,_,_,_] Ab C9 rfl rfl rfl rfl) ?_)))))))));refine eS [_,_,_,_,_,_,_,_,_,_,_,_] h1 ?_;intro cr b4 bd ct;clear h1;revert ac N f L M F E X ra rb O;refine eF bd ?_;intro ac N f L M F E X ra rb O;clear bd;refine C1 Pa (C1 Pa (cT (BO (AL (AV (AL (AL (AV (AL (Dc rfl Ab rfl rfl rfl b4 rfl rfl rfl ?_))))))))))
       exact ⟨rfl,X⟩
     . have be:=a1 ⟨rfl,hn⟩;rw [hn] at HU;clear a1 az hn bn
       generalize (H5 xb).1=nn at *
       have HO:=kh be;clear be;have HT:=kh ar;clear ar
       refine cS (C1 V3 (cT (Al (fE (Av (Ai (Al (Ax (cS (C1 Mv (C1 Pi ?_)))))))))));refine C1 (XU O) ?_;refine eA [_,_] ?_;intro d2 d3 b5 b6 d4 d5;revert N f h1 L M F E X ra rb O;refine eE b6 ?_;intro N f h1 L M F E X ra rb O;clear b6;refine C1 Pa ?_;refine eS [_,_] b5 ?_;intro b7 ab bf cu;clear b5;revert N f h1 L M F E X ra rb O;refine eF bf ?_;intro N f h1 L M F E X ra rb O;clear bf;refine cT (Al ?_);refine AE (fun wz=>Ext b7 wz) 13 (.pure 0 (.pure 1 (.pure 2 (.pure 3 (.pure 4 (.pure 5 (.pure 6 (.pure 7 (.pure 8 (.pure 9 (.pure 10 (.pure 11 (.pure 12 .tail))))))))))))) mixed BD (Ac (Ak (Ac (Ac (Ak (Ac An)))))) ?_;intro b8 av _;have ap:(fun wz=>Ext b7 wz) b8:=av;simp only at ap;have a6:=ab;have ad:=N;have aa:=f;have ah:=h1;have ai:=L;have aj:=M;have ak:=F;have al:=E;have ae:=ra;have af:=rb;have an:=O;have cv:=av.size;revert ab N f h1 L M F E X ra rb O;refine eE av ?_;intro ab N f h1 L M F E X ra rb O;clear av;refine ⟨ap,?_⟩;refine Tq rfl Mv (Tq rfl Mv ?_);refine Tq rfl (Eo rfl rfl (kN _ Aa)) ?_;refine Tq rfl V7 (Tq rfl Pi (Tq rfl (AA Ab rfl rfl rfl (fun wz hz=>mx (mf ae hz) rfl)) (Tq rfl Mv (Tq rfl Mv ?_))));refine Tq rfl (Eo rfl rfl (kN _ Aa)) ?_
       refine Tq rfl V7 (Tq rfl Pi (Tq rfl (AA Ab rfl rfl rfl (fun wz hz=>mx (mf af hz) rfl)) (Tq rfl Pa ?_)));clear ap a6 ad aa ah ai aj ak al ae af an;refine AI rfl (C1 Pa (cN (C1 Mv ?_)));refine cC rfl (HU.out _ Af Af) ?_;rintro _ cw ⟨⟨⟩,a3⟩;have cx:=a3.size;revert ab N f h1 L M F E X ra rb O;refine eE a3 ?_;intro ab N f h1 L M F E X ra rb O;clear a3;refine C1 Mv (C1 Px (C1 Px (C1 Pa (C1 Pa (cT (Al (cS (C1 Mv (C1 Pg (C1 (Pl ab) (C1 V9 ?_)))))))))));refine C1 Mv (Bl rfl rfl rfl (EG (not_not_intro rfl)) (C1 Mv (Bl rfl rfl rfl (EG (not_not_intro rfl)) (C1 Pt (C1 (Qn (not_not_intro rfl)) (cT (CT rfl (Av (Ai (Ag (C1 Pf ?_)))))))))));refine C1 (Pl ab) (C1 Mv (C1 Pn ?_))
       rcases hf with ⟨h5,rfl,rfl⟩|⟨rfl,rfl,rfl⟩
       . replace HT:=kh (HT.out h5)
         refine C8 (Mm Ab rfl rfl rfl Af (by show 1+j<12;omega)) ?_;refine F6 ?_;rintro _ d6 ⟨d7,⟨a7,d8⟩⟩;have d9:=a7.size;revert f h1 M F E X ra rb;refine eF a7 ?_;intro f h1 M F E X ra rb;clear N;revert L ab O;refine eF a7 ?_;intro L ab O;clear a7;refine Ah (Ad (Ai (Ag (C1 V7 (C1 Mv (Ah ?_))))))
         exact Ay (j+1) sB ⟨Aa,HO.out,by rw [<-HT.out];assumption,by rw [At Aa] at f ⊢;exact f,h1,L,M,F,E,X,Aa,Aa⟩ Aa
       . clear HT
         refine C8 (Mm Ab rfl rfl rfl Af (by show 0<1;omega)) ?_;refine F6 ?_;rintro _ ea ⟨ec,⟨a8,ed⟩⟩;have ee:=a8.size;revert h1 M F E X N ra rb L;refine eF a8 ?_;intro h1 M F E X N ra rb L;clear f;revert ab O;refine eF a8 ?_;intro ab O;clear a8;refine Ah (Ad (Ai (Ag (C1 V7 (C1 Mv (Ah ?_))))))
         exact Ay 6 sB ⟨Aa,HO.out,N,by show Blk _ _ [.int .i64 (DD ws 5)];rw [bo];assumption,h1,L,M,F,E,X,Aa,Aa⟩ Aa
   . rw [az (fun h=>hw h.1)];clear a1 az bo ar bn
     generalize (H5 xb).1=nn at *
     generalize (H5 xb).2=ok at *
     refine cS (C1 V3 (cT (Al (fE (Av (Ai (Al (Ax (cS (C1 Mv (C1 Pi ?_)))))))))));refine C1 (XU O) ?_;refine eA [_,_] ?_;intro ef eg ca cb eh ei;revert N f h1 L M F E X ra rb O;refine eE cb ?_;intro N f h1 L M F E X ra rb O;clear cb;refine C1 Pa ?_;refine eS [_,_] ca ?_;intro cc ag bg cy;clear ca;revert N f h1 L M F E X ra rb O;refine eF bg ?_;intro N f h1 L M F E X ra rb O;clear bg;refine cT (Al ?_);refine AE (fun wz=>Ext cc wz) 13 (.pure 0 (.pure 1 (.pure 2 (.pure 3 (.pure 4 (.pure 5 (.pure 6 (.pure 7 (.pure 8 (.pure 9 (.pure 10 (.pure 11 (.pure 12 .tail))))))))))))) mixed BD (Ac (Ak (Ac (Ac (Ak (Ac An)))))) ?_;intro cd aw _;have aq:(fun wz=>Ext cc wz) cd:=aw;simp only at aq;have a9:=ag;have ad:=N;have aa:=f;have ah:=h1;have ai:=L;have aj:=M;have ak:=F;have al:=E;have ae:=ra;have af:=rb;have an:=O;have cz:=aw.size;revert ag N f h1 L M F E X ra rb O;refine eE aw ?_;intro ag N f h1 L M F E X ra rb O;clear aw;refine ⟨aq,?_⟩;refine Tq rfl Mv (Tq rfl Mv ?_);refine Tq rfl (Eo rfl rfl (kN _ Aa)) ?_;refine Tq rfl V7 (Tq rfl Pi (Tq rfl (AA Ab rfl rfl rfl (fun wz hz=>mx (mf ae hz) rfl)) (Tq rfl Mv (Tq rfl Mv ?_))));refine Tq rfl (Eo rfl rfl (kN _ Aa)) ?_
     refine Tq rfl V7 (Tq rfl Pi (Tq rfl (AA Ab rfl rfl rfl (fun wz hz=>mx (mf af hz) rfl)) (Tq rfl Pa ?_)));clear aq a9 ad aa ah ai aj ak al ae af an;refine AI rfl (C1 Pa (cN (C1 Mv ?_)));refine cC rfl (HU.out _ Af Af) ?_;rintro _ c0 ⟨⟨⟩,a4⟩;have c1:=a4.size;revert ag N f h1 L M F E X ra rb O;refine eE a4 ?_;intro ag N f h1 L M F E X ra rb O;clear a4;refine C1 Mv (C1 Px (C1 Px (C1 Pa (C1 Pa (cT (Al (cS (C1 Mv (C1 Pg (C1 (Pl ag) (C1 V9 ?_)))))))))));refine C1 Mv (Wa (Wa (C1 ZO (cT (CS rfl (cS (C1 (DS [_,_,_,_,_,_,_,_,_,_,_,_] Ab C9 rfl rfl rfl rfl) ?_)))))));refine eS [_,_,_,_,_,_,_,_,_,_,_,_] h1 ?_;intro c2 ce bh c3;clear h1;revert ag N f L M F E X ra rb O;refine eF bh ?_;intro ag N f L M F E X ra rb O;clear bh;refine C1 Pa (C1 Pa (cT (BO (AL (AV (AL (AL (AV (AL (Dc rfl Ab rfl rfl rfl ce rfl rfl rfl ?_))))))))))
     exact ⟨rfl,X⟩
 obtain rfl:j=6:=by omega
 have e:S4 ws = .tuple #[.agg (eP ws).cells0.toArray,.int .i64 (DD ws 5),.bool true]:=AH ⟨hl,h0,hnm,HQ.out⟩;rw [e]
 unfold EX.cells0 EX.cells at N
 refine cS (C1 V3 (cT (Al (Ij (DP (AQ (AQ (Bs (Ai (Al ?_))))))))));refine AE (fun wz=>Fr (fun x=>x=b1) w3 wz) 3 (.pure 0 (.pure 1 (.fork 2 .tail .none))) mixed BD (Ac An) ?_;intro cm ba _;have am:(fun wz=>Fr (fun x=>x=b1) w3 wz) cm:=Fr.of_ext ba;simp only at am;have ah:=h1;have ai:=L;have aj:=M;have ak:=F;have al:=E;have ad:=N;have aa:=f;have ej:=ba.size;revert h1 L M F E X N f;refine eE ba ?_;intro h1 L M F E X N f;clear ba;refine ⟨am,?_⟩;refine Tq rfl (Cn [_,_,_,_,_,_,_,_,_,_,_,_] Ab rfl rfl rfl (fun wz hz=>(Blk.fr ad hz (by first|omega|(dsimp only;omega)))) rfl rfl) ?_;refine Tq rfl (AA Ab rfl rfl rfl (fun wz hz=>Blk.cell (Blk.fr aa hz (by first|omega|(dsimp only;omega))) rfl)) ?_;refine Ks [_,_,_,_,_,_,_,_,_,_,_,_] [_,_,_,_,_,_,_,_,_,_,_,_] rfl Ab rfl rfl rfl rfl rfl rfl h1 rfl rfl ?_ A9;intro ek bb;have cf:=bb.blk;have cg:=bb.fr;have el:=bb.size;clear bb h1;revert am L M F E X N f;refine eF cg ?_;intro am L M F E X N f;clear cg;refine ⟨am,?_⟩;clear ah ai aj ak al ad aa am;refine AI rfl (C1 Pa (C1 Pa (cT (BO (Dc rfl Ab rfl rfl rfl cf rfl rfl rfl ?_)))))
 exact ⟨rfl,X⟩
abbrev CP:=List lB
inductive Nt where
 | ex (lv:Int):Nt
 | cl (lv:Int) (x:Nd):Nt
 | un:Nt
 | pl:Nt
def IQ (lv:Int) (b:CP):Prop:= ∀t∈b.head?,∀op,Ff t=some op->Bv op<lv
def ME (b:CP):Prop:= ∀t∈b.head?,t≠[91]
inductive G:Nt->CP->Nd->Prop where
 | ex {lv:Int} {a b:CP} {x y:Nd}:G .un a x->G (.cl lv x) b y->G (.ex lv) (a++b) y
 | cl0 {lv:Int} {x:Nd}:G (.cl lv x) [] x
 | cl1 {lv op:Int} {t:lB} {a b:CP} {x y z:Nd}:Ff t=some op->lv<=Bv op->G (.ex (Bv op+1)) a y->IQ (Bv op+1) b->G (.cl lv (.mk op 0 [] [x,y])) b z->G (.cl lv x) (t::(a++b)) z
 | neg {a:CP} {x:Nd}:G .un a x->G .un ([45]::a) (.mk 6 0 [] [x])
 | not {a:CP} {x:Nd}:G .un a x->G .un ([33]::a) (.mk 7 0 [] [x])
 | num {t:lB}:BW t=true->(A7 t:Int)<=9223372036854775807->G .un [t] (.mk 1 (A7 t) [] [])
 | top {m:lB}:AS m=true->G .un [[116,111,112],[40],m,[41]] (.mk 4 0 m [])
 | size {m:lB}:AS m=true->G .un [[115,105,122,101],[40],m,[41]] (.mk 5 0 m [])
 | par {a:CP} {x:Nd}:G (.ex 1) a x->G .un ([40]::(a++[[41]])) x
 | place {a:CP} {x:Nd}:G .pl a x->G .un a x
 | var {m:lB}:AS m=true->G .pl [m] (.mk 2 0 m [])
 | item {m:lB} {a:CP} {x:Nd}:AS m=true->G (.ex 1) a x->G .pl (m::[91]::(a++[[93]])) (.mk 3 0 m [x])
section
variable {ts:List Tok} {n:Int}
def Mn (ts:List Tok):CP:=ts.map Tok.text
def Df (σ:PS) (k:Nat):PS:=⟨σ.at_+k,σ.off,σ.err⟩
def Bd (σ:PS) (a b:Nat):Df (Df σ a) b=Df σ (a+b):=by simp [Df,Nat.add_assoc]
def BI (σ:PS):Ap σ=Df σ 1:=rfl
def rem (ts:List Tok) (σ:PS):CP:=(Mn ts).drop σ.at_
def JF (σ:PS):(rem ts σ).length=ts.length-σ.at_:=by simp [rem,Mn]
def Cv {σ:PS} {a b:CP} (h:rem ts σ=a++b):rem ts (Df σ a.length)=b:=by
 unfold rem Df at *;simp only;rw [<-List.drop_drop,h];simp
def AJ {σ:PS} {t:lB} {b:CP} (h:rem ts σ=t::b):rem ts (Df σ 1)=b:=Cv (a:=[t]) h
def GJ {σ:PS} {t:lB} {b:CP} (h:rem ts σ=t::b):σ.at_<ts.length:=by
 have:=JF (ts:=ts) σ;rw [h] at this;simp at this;omega
def B7 {σ:PS} {t:lB} {b:CP} (h:rem ts σ=t::b) (E:σ.err=0):(Aq ts σ).text=t:=by
 have f:=GJ h;unfold Aq;rw [At (by rintro (h|h);exact h E;omega)];unfold rem Mn at h;rw [lh (by simpa using f)] at h;simp only [List.getElem_map,kQ] at h;rw [List.getD_eq_getElem?_getD,kg f];exact h.1
def Zj {σ:PS} (f:σ.at_<=ts.length) (h:rem ts σ=[]):(Aq ts σ).text=[]:=by
 have:=JF (ts:=ts) σ;rw [h] at this;rw [Sa (by simp at this;omega)];rfl
def S5 {σ:PS} (f:σ.at_<=ts.length) (E:σ.err=0):(Aq ts σ).text=((rem ts σ).head?).getD []:=by
 cases h:rem ts σ with
 | nil=>rw [Zj f h];rfl
 | cons t b=>rw [B7 h E];rfl
def AX {σ:PS} {t u:lB} {b:CP} (h:rem ts σ=t::b) (f:σ.err=0):B1 ts σ u=decide (t=u):=by unfold B1;rw [B7 h f]
def GK {σ:PS} (f:σ.at_<ts.length) (E:σ.err=0):Aq ts σ∈ts:=by
 unfold Aq;rw [At (by rintro (h|h);exact h E;omega),List.getD_eq_getElem?_getD,kg f];exact kq f
def GL (E:AZ ts) {σ:PS} {t:lB} {b:CP} (h:rem ts σ=t::b) (f:σ.err=0):(Aq ts σ).kind=2↔BW t=true:=by
 rw [<-B7 h f];exact E _ (GK (GJ h) f)
def A4 {σ:PS} {t:lB} {b:CP} (h:rem ts σ=t::b) (f:σ.err=0):Az ts n σ t=Df σ 1:=by unfold Az;rw [AX h f];simp [BI]
def Cx {σ:PS} {t:lB} {b:CP} (h:rem ts σ=t::b) (f:σ.err=0) (E:AS t=true):A2 ts n σ=(t,Df σ 1):=by unfold A2;rw [B7 h f,AH E];rfl
def Zk {σ:PS} (E:σ.at_<ts.length) (f:σ.err=0):rem ts σ=(Aq ts σ).text::rem ts (Df σ 1):=by
 cases h:rem ts σ with
 | nil=>have:=JF (ts:=ts) σ;rw [h] at this;simp at this;omega
 | cons t b=>rw [B7 h f,AJ h]
end
def Zl {m:lB} (h:AS m=true):m≠[45]/\m≠[33]/\m≠[40]/\m≠[116,111,112]/\m≠[115,105,122,101]/\BW m=false:=by
 refine ⟨?_,?_,?_,?_,?_,?_⟩
 . rintro rfl;revert h;decide
 . rintro rfl;revert h;decide
 . rintro rfl;revert h;decide
 . rintro rfl;revert h;decide
 . rintro rfl;revert h;decide
 . cases m with
   | nil=>rfl
   | cons c r=>
    have F:(Ar (c::r)).1=1:=by
     simp only [AS,ke,beq_iff_eq] at h;exact h.1.1.2
    cases hd:BW (c::r)
    . rfl
    . exfalso;have f:B5 c=true:=by simpa [BW] using hd
      have E:CG c=false:=by
       cases E:CG c
       . rfl
       . simp only [CG,B5,ke,decide_eq_true_eq] at E f;omega
      simp [Ar,E,f] at F
def G.head {f:Nt} {a:CP} {x:Nd} (h:G f a x):match f with
 | .cl lv _=> ∀t r,a=t::r -> ∃op,Ff t=some op/\lv<=Bv op
 | _=>a≠[]:=by
 induction h with
 | ex _ _ E _=>simp only at *;intro h;exact E (List.append_eq_nil_iff.1 h).1
 | cl0=>intro t r h;cases h
 | cl1 h1 F=>intro t r h;simp only [kQ] at h;obtain ⟨rfl,-⟩:=h;exact ⟨_,h1,F⟩
 | neg=>simp
 | not=>simp
 | num=>simp
 | top=>simp
 | size=>simp
 | par=>simp
 | place _ i=>exact i
 | var=>simp
 | item=>simp
section
variable {ts:List Tok} {n:Int}
def cF:Ff []=none:=by decide
def Zm:Ff [91]=none:=by decide
def Gc {σ:PS} {u:lB} (f:σ.at_<=ts.length) (h:σ.err=0):B1 ts σ u=decide (((rem ts σ).head?).getD []=u):=by unfold B1;rw [S5 f h]
def Zn {σ:PS} (f:σ.at_<=ts.length) (E:σ.err=0) (h:ME (rem ts σ)):B1 ts σ [91]=false:=by
 rw [Gc f E];cases hr:rem ts σ with
 | nil=>simp
 | cons t b=>have:=h t (by rw [hr];rfl);exact decide_eq_false this
def Zo {σ:PS} {lv:Int} (F:σ.at_<=ts.length) (L:σ.err=0) (h:IQ lv (rem ts σ)) : ∀op,Ff (Aq ts σ).text=some op->Bv op<lv:=by
 intro op f;rw [S5 F L] at f;cases hr:rem ts σ with
 | nil=>rw [hr] at f;have E:Ff []=some op:=f;rw [cF] at E;cases E
 | cons t b=>rw [hr] at f;exact h t (by rw [hr];rfl) op (by simpa using f)
def cG (σ:PS) (k:Nat):(Df σ k).err=σ.err:=rfl
def gK {σ:PS} {a b:CP} (h:rem ts σ=a++b) (f:a≠[]):σ.at_+a.length<=ts.length:=by
 have:=JF (ts:=ts) σ;rw [h] at this;cases a with
 | nil=>exact absurd rfl f
 | cons t r=>simp only [j9,kf] at this ⊢;omega
def GM {σ:PS} {a b:CP} (f:σ.at_<=ts.length) (h:rem ts σ=a++b):(Df σ a.length).at_<=ts.length:=by
 cases a with
 | nil=>exact f
 | cons t r=>exact gK h A6
def G.pl_head {a:CP} {x:Nd} (h:G .pl a x) : ∃m r,a=m::r/\AS m=true:=by
 cases h with
 | var f=>exact ⟨_,_,rfl,f⟩
 | item f _=>exact ⟨_,_,rfl,f⟩
def jh (ts:List Tok) (n:Int):Nt->CP->Nd->Prop
 | .ex lv,a,x=> ∀(σ:PS) (k:Nat) (rest:CP),σ.at_<=ts.length->σ.err=0->rem ts σ=a++rest->IQ lv rest->ME rest->4*a.length+4<=k->Bu ts n k lv σ=(x,Df σ a.length)
 | .cl lv x0,a,x=> ∀(σ:PS) (k:Nat) (rest:CP),σ.at_<=ts.length->σ.err=0->rem ts σ=a++rest->IQ lv rest->ME rest->4*a.length+1<=k->BQ ts n k lv x0 σ=(x,Df σ a.length)
 | .un,a,x=> ∀(σ:PS) (k:Nat) (rest:CP),σ.at_<=ts.length->σ.err=0->rem ts σ=a++rest->ME rest->4*a.length+3<=k->Ba ts n k σ=(x,Df σ a.length)
 | .pl,a,x=> ∀(σ:PS) (k:Nat) (rest:CP),σ.at_<=ts.length->σ.err=0->rem ts σ=a++rest->ME rest->4*a.length+1<=k->Bz ts n k σ=(x,Df σ a.length)
def G.cl_rest {lv:Int} {x y:Nd} {b rest:CP} (h:G (.cl lv x) b y) (F:IQ lv rest) (L:ME rest) (op:Int) (O:lv<=Bv op) (M:IQ (Bv op+1) b):IQ (Bv op+1) (b++rest)/\ME (b++rest):=by
 cases b with
 | nil=>exact ⟨fun t N o f=>by have:=F t N o f;omega,L⟩
 | cons t r=>
  refine ⟨fun u E=>M u (by simpa using E),fun u E=>?_⟩;obtain ⟨o,f,-⟩:=h.head t r rfl;have:u=t:=by simpa using E.symm
  subst this;rintro rfl;rw [Zm] at f;cases f
def G.cl_nobr {lv:Int} {x y:Nd} {b rest:CP} (h:G (.cl lv x) b y) (E:ME rest):ME (b++rest):=by
 cases b with
 | nil=>exact E
 | cons t r=>
  intro u F;obtain ⟨o,f,-⟩:=h.head t r rfl;have:u=t:=by simpa using F.symm
  subst this;rintro rfl;rw [Zm] at f;cases f
def GN {lv:Int} {t:lB} {r:CP} (h:Ff t=none):IQ lv (t::r):=fun u E op f=>by
 have:u=t:=by simpa using E.symm
 subst this;rw [h] at f;cases f
def D1 {t:lB} {r:CP} (h:t≠[91]):ME (t::r):=fun u f=>by
 have:u=t:=by simpa using f.symm
 subst this;exact h
def G.reads (hd:AZ ts) {nt:Nt} {a:CP} {x:Nd} (h:G nt a x):jh ts n nt a x:=by
 induction h with
 | @ex lv a b x y h1 Z Y i2=>
  intro σ k rest V E M hs U O;obtain ⟨k,rfl⟩ : ∃j,k=j+1:=⟨k-1,Aa⟩;simp only [j9] at O ⊢;rw [kA] at M;rw [Bu,Y σ k _ V E M (Z.cl_nobr U) Aa];simp only;rw [i2 (Df σ a.length) k rest (GM V M) E (Cv M) hs U Aa,Bd]
 | @cl0 lv x=>
  intro σ k rest V E M hs U O;obtain ⟨k,rfl⟩ : ∃j,k=j+1:=⟨k-1,Aa⟩;rw [lk] at M;have hb:=Zo V E (M.symm▸hs);rw [BQ];split
  . rfl
  . rename_i op ho;rw [AH (hb op ho)];rfl
 | @cl1 lv op t a b x y z h1 Z h3 h4 h5 i3 i5=>
  intro σ k rest V E M hs U O;obtain ⟨k,rfl⟩ : ∃j,k=j+1:=⟨k-1,Aa⟩;simp only [kf,j9] at O ⊢;have F:rem ts σ=t::(a++(b++rest)):=by rw [M];simp
  obtain ⟨s1,s2⟩:=h5.cl_rest hs U op Z h4;have hl:=GJ F;rw [BQ,B7 F E,h1];simp only;rw [At Aa,BI,i3 (Df σ 1) k (b++rest) hl E (AJ F) s1 s2 Aa];simp only;have L:=AJ F;rw [i5 (Df (Df σ 1) a.length) k rest (GM hl L) E (Cv L) hs U Aa,Bd,Bd];exact Prod.ext rfl (congrArg (Df σ) Aa)
 | @neg a x h1 Y=>
  intro σ k rest V E M U O;obtain ⟨k,rfl⟩ : ∃j,k=j+1:=⟨k-1,Aa⟩;simp only [kf] at O ⊢;have F:rem ts σ=[45]::(a++rest):=M;rw [Ba,AX F E,AH Ao,BI,Y (Df σ 1) k rest (GJ F) E (AJ F) U Aa,Bd,Nat.add_comm 1]
 | @not a x h1 Y=>
  intro σ k rest V E M U O;obtain ⟨k,rfl⟩ : ∃j,k=j+1:=⟨k-1,Aa⟩;simp only [kf] at O ⊢;have F:rem ts σ=[33]::(a++rest):=M;rw [Ba,AX F E,At Ao,AX F E,AH Ao,BI,Y (Df σ 1) k rest (GJ F) E (AJ F) U Aa,Bd,Nat.add_comm 1]
 | @num t h1 Z=>
  intro σ k rest V E M U O;obtain ⟨k,rfl⟩ : ∃j,k=j+2:=⟨k-2,by simp at O;omega⟩;have F:rem ts σ=t::rest:=M;have aa:t≠[45]/\t≠[33]:=⟨by rintro rfl;revert h1;decide,by rintro rfl;revert h1;decide⟩;rw [Ba,AX F E,At (by simpa using aa.1),AX F E,At (by simpa using aa.2),Be,AH ((GL hd F E).2 h1)];have ab:BP ts n 0 9223372036854775807 σ=((A7 t:Int),Df σ 1):=by
   unfold BP;rw [AH ((GL hd F E).2 h1),B7 F E,AH ⟨Z,Aa,Z⟩];rfl
  rw [ab];rfl
 | @top m h1=>
  intro σ k rest V E M U O;obtain ⟨k,rfl⟩ : ∃j,k=j+2:=⟨k-2,by simp at O;omega⟩;have f:rem ts σ=[116,111,112]::([40]::m::[41]::rest):=M;have L:=AJ f;have N:=AJ L;have X:=AJ N;rw [Ba,AX f E,At Ao,AX f E,At Ao,Be,At (fun e=>by have:=(GL hd f E).1 e;revert this;decide),AX f E,AH Ao,BI,A4 L E,Cx N E h1];simp only;rw [A4 X E];rfl
 | @size m h1=>
  intro σ k rest V E M U O;obtain ⟨k,rfl⟩ : ∃j,k=j+2:=⟨k-2,by simp at O;omega⟩;have f:rem ts σ=[115,105,122,101]::([40]::m::[41]::rest):=M;have L:=AJ f;have N:=AJ L;have X:=AJ N;rw [Ba,AX f E,At Ao,AX f E,At Ao,Be,At (fun e=>by have:=(GL hd f E).1 e;revert this;decide),AX f E,At Ao,AX f E,AH Ao,BI,A4 L E,Cx N E h1];simp only;rw [A4 X E];rfl
 | @par a x h1 Y=>
  intro σ k rest V E M U O;simp only [kf,j9,ki] at O ⊢;obtain ⟨k,rfl⟩ : ∃j,k=j+2:=⟨k-2,Aa⟩
  have f:rem ts σ=[40]::(a++([41]::rest)):=by rw [M];simp
  have L:=AJ f;have N:=Cv L;rw [Ba,AX f E,At Ao,AX f E,At Ao,Be,At (fun e=>by have:=(GL hd f E).1 e;revert this;decide),AX f E,At Ao,AX f E,At Ao,AX f E,AH Ao,BI,
   Y (Df σ 1) k _ (GJ f) E L (GN Ao) (D1 Ao) Aa]
  simp only;rw [A4 N E,Bd,Bd];exact Prod.ext rfl (congrArg (Df σ) Aa)
 | @place a x h1 Y=>
  intro σ k rest V E M U O;obtain ⟨k,rfl⟩ : ∃j,k=j+2:=⟨k-2,Aa⟩;obtain ⟨m,r,rfl,hm⟩:=h1.pl_head;have f:rem ts σ=m::(r++rest):=M;obtain ⟨n1,n2,n3,n4,n5,n6⟩:=Zl hm;rw [Ba,AX f E,At (by simpa using n1),AX f E,At (by simpa using n2),Be,At (fun e=>by have:=(GL hd f E).1 e;rw [n6] at this;cases this),AX f E,At (by simpa using n4),AX f E,At (by simpa using n5),AX f E,At (by simpa using n3)];exact Y σ k rest V E M U Aa
 | @var m h1=>
  intro σ k rest V E M U O;obtain ⟨k,rfl⟩ : ∃j,k=j+1:=⟨k-1,Aa⟩;have f:rem ts σ=m::rest:=M;rw [Bz,Cx f E h1];simp only;rw [Zn (σ:=Df σ 1) (GJ f) E ((AJ f).symm▸U),At Ao];rfl
 | @item m a x h1 Z i2=>
  intro σ k rest V E M U O;simp only [kf,j9,ki] at O ⊢;obtain ⟨k,rfl⟩ : ∃j,k=j+1:=⟨k-1,Aa⟩
  have f:rem ts σ=m::([91]::(a++([93]::rest))):=by rw [M];simp
  have L:=AJ f;have N:=AJ L;have X:=Cv N;rw [Bz,Cx f E h1];simp only;rw [AX L E,AH Ao,BI,i2 (Df (Df σ 1) 1) k _ (GJ L) E N (GN Ao) (D1 Ao) Aa];simp only;rw [A4 X E,Bd,Bd,Bd];exact Prod.ext rfl (congrArg (Df σ) Aa)
end
section
variable {ts:List Tok} {n:Int}
def Vz {σ:PS} {lv:Int} (L:σ.at_<=ts.length) (E:σ.err=0) (h : ∀op,Ff (Aq ts σ).text=some op->Bv op<lv):IQ lv (rem ts σ):=by
 intro t f op F;cases hr:rem ts σ with
 | nil=>rw [hr] at f;cases f
 | cons u b=>
  rw [hr] at f;have:t=u:=by simpa using f.symm
  subst this;exact h op (by rw [B7 hr E];exact F)
def Seg (ts:List Tok) (σ σ':PS) (a:CP):Prop:=rem ts σ=a++rem ts σ'
def Seg.refl (σ:PS):Seg ts σ σ []:=rfl
def Seg.trans {σ f E:PS} {a b:CP} (h:Seg ts σ f a) (k:Seg ts f E b):Seg ts σ E (a++b):=by unfold Seg at *;rw [h,k,kA]
def EI {σ:PS} (h:In ts σ):Seg ts σ (Ap σ) [(Aq ts σ).text]:=Zk h.2 h.1
def EO {σ:PS} {t:lB} (f:σ.at_<=ts.length) (h:B1 ts σ t=true) (E:t≠[]):Seg ts σ (Ap σ) [t]:=by
 have:=EI (AP f h E);have e:(Aq ts σ).text=t:=of_decide_eq_true h;rwa [e] at this
def B4 {σ:PS} {t:lB} (E:σ.at_<=ts.length) (F:t≠[]) (f:(Az ts n σ t).err=0):Seg ts σ (Az ts n σ t) [t]:=by
 unfold Az at *;split at f
 . rename_i h;rw [AH h];exact EO E h F
 . exact absurd f E0
def Dg {σ:PS} (E:σ.at_<=ts.length) (h:(A2 ts n σ).2.err=0):Seg ts σ (A2 ts n σ).2 [(A2 ts n σ).1]/\AS (A2 ts n σ).1=true:=by
 unfold A2 at *;split at h
 . rename_i f;rw [AH f];exact ⟨EI (Cc E (kj (FB f))),f⟩
 . exact absurd h E0
def N6 (N:AZ ts) {f h:Int} {σ:PS} (O:σ.at_<=ts.length) (F:(BP ts n f h σ).2.err=0) :
 ∃t,Seg ts σ (BP ts n f h σ).2 [t]/\BW t=true/\(BP ts n f h σ).1=(A7 t:Int)/\(A7 t:Int)<=9223372036854775807/\f<=(A7 t:Int)/\(A7 t:Int)<=h:=by
 unfold BP at *;split at F
 . rename_i M;rw [AH M];have E:=Cc O (kp (by rw [M];decide));split at F
   . rename_i L;rw [AH L];exact ⟨_,EI E,(N _ (GK E.2 E.1)).1 M,rfl,L.1,L.2.1,L.2.2⟩
   . exact absurd F (Eh Ao)
 . exact absurd F E0
def N7 (hd:AZ ts) (k:Nat) :
 (∀lv σ,σ.at_<=ts.length->4*mS ts σ+4<=k->(Bu ts n k lv σ).2.err=0 -> ∃a,Seg ts σ (Bu ts n k lv σ).2 a/\G (.ex lv) a (Bu ts n k lv σ).1/\IQ lv (rem ts (Bu ts n k lv σ).2)) /\
 (∀lv x σ,σ.at_<=ts.length->4*mS ts σ+1<=k->(BQ ts n k lv x σ).2.err=0 -> ∃a,Seg ts σ (BQ ts n k lv x σ).2 a/\G (.cl lv x) a (BQ ts n k lv x σ).1/\IQ lv (rem ts (BQ ts n k lv x σ).2)) /\
 (∀ σ,σ.at_<=ts.length->4*mS ts σ+3<=k->(Ba ts n k σ).2.err=0 -> ∃a,Seg ts σ (Ba ts n k σ).2 a/\G .un a (Ba ts n k σ).1) /\
 (∀ σ,σ.at_<=ts.length->4*mS ts σ+2<=k->(Be ts n k σ).2.err=0 -> ∃a,Seg ts σ (Be ts n k σ).2 a/\G .un a (Be ts n k σ).1) /\
 (∀ σ,σ.at_<=ts.length->4*mS ts σ+1<=k->(Bz ts n k σ).2.err=0 -> ∃a,Seg ts σ (Bz ts n k σ).2 a/\G .pl a (Bz ts n k σ).1):=by
 induction k with
 | zero=>refine ⟨fun _ _ _ h=>?_,fun _ _ _ _ h=>?_,fun _ _ h=>?_,fun _ _ h=>?_,fun _ _ h=>?_⟩<;>omega
 | succ k ih=>
  obtain ⟨iE,iC,iU,iP,iL⟩:=ih;obtain ⟨vE,vC,vU,vP,vL⟩:=Fm (ts:=ts) (n:=n) k;refine ⟨fun lv σ h Z E=>?_,fun lv x σ h Z E=>?_,fun σ h Z E=>?_,fun σ h Z E=>?_,fun σ h Z E=>?_⟩
  . rw [Bu] at E ⊢;have hu:=vU σ h;have hc:=vC lv (Ba ts n k σ).1 (Ba ts n k σ).2 hu.1.wf;have U:=Vo hu.1 (hu.2 Aa);have aa:=hc.ok E;obtain ⟨a,N,O⟩:=iU σ h Aa aa;obtain ⟨b,sb,gb,X⟩:=iC lv _ _ hu.1.wf Aa E;exact ⟨a++b,N.trans sb,G.ex O gb,X⟩
  . cases ho:Ff (Aq ts σ).text with
    | none=>
     have e:BQ ts n (k+1) lv x σ=(x,σ):=by rw [BQ];simp only [ho]
     rw [e] at E ⊢;exact ⟨[],Seg.refl _,G.cl0,Vz h E (fun op e=>by rw [ho] at e;cases e)⟩
    | some op=>
     obtain ⟨ab,ae⟩:=Gz ho;have F:=Cc h (kj ab);have U:=Ck F;have hp:=T6 F;by_cases hl:Bv op<lv
     . have e:BQ ts n (k+1) lv x σ=(x,σ):=by rw [BQ];simp only [ho];rw [AH hl]
       rw [e] at E ⊢;exact ⟨[],Seg.refl _,G.cl0,Vz h F.1 (fun o e=>by rw [ho] at e;cases e;exact hl)⟩
     . have e:BQ ts n (k+1) lv x σ=BQ ts n k lv (.mk op 0 [] [x,(Bu ts n k (Bv op+1) (Ap σ)).1]) (Bu ts n k (Bv op+1) (Ap σ)).2:=by rw [BQ];simp only [ho];rw [At hl]
       rw [e] at E ⊢;have h1:=AB F;have L:=vE (Bv op+1) (Ap σ) h1.wf;have M:=vC lv (.mk op 0 [] [x,(Bu ts n k (Bv op+1) (Ap σ)).1]) _ L.1.wf;have af:=BN L.1;obtain ⟨a,N,O,ac⟩:=iE (Bv op+1) (Ap σ) h1.wf Aa (M.ok E);obtain ⟨b,sb,gb,X⟩:=iC lv _ _ L.1.wf Aa E;refine ⟨(Aq ts σ).text::(a++b),(EI F).trans (N.trans sb),G.cl1 ho Aa O ?_ gb,X⟩;intro t ht;refine ac t ?_;have ad:rem ts (Bu ts n k (Bv op+1) (Ap σ)).2=b++_:=sb;rw [ad];cases b with
       | nil=>cases ht
       | cons u r=>simpa using ht
  . rw [Ba] at E ⊢;split at E
    . rename_i f;rw [AH f];have F:=AP h f Ao;have U:=Ck F;obtain ⟨a,N,O⟩:=iU (Ap σ) (AB F).wf Aa E;exact ⟨_,(EO h f Ao).trans N,G.neg O⟩
    . rename_i f;rw [At f];split at E
      . rename_i f;rw [AH f];have F:=AP h f Ao;have U:=Ck F;obtain ⟨a,N,O⟩:=iU (Ap σ) (AB F).wf Aa E;exact ⟨_,(EO h f Ao).trans N,G.not O⟩
      . rename_i f;rw [At f];exact iP σ h Aa E
  . rw [Be] at E ⊢;split at E
    . rename_i f;rw [AH f];obtain ⟨t,X,h1,L,M,-⟩:=N6 hd h E;refine ⟨[t],X,?_⟩;simp only [L];exact G.num h1 M
    . rename_i f;rw [At f];split at E
      . rename_i f;rw [AH f];have F:=AP h f Ao;have h1:=AB F;have L:=As (n:=n) (t:=[40]) h1.wf Ao;have M:=AO (n:=n) L.wf;have h4:=As (n:=n) (t:=[41]) M.wf Ao;have Y:=h4.ok E;obtain ⟨s3,U⟩:=Dg L.wf Y;exact ⟨_,(((EO h f Ao).trans (B4 h1.wf Ao (M.ok Y))).trans s3).trans (B4 M.wf Ao E),G.top U⟩
      . rename_i f;rw [At f];split at E
        . rename_i f;rw [AH f];have F:=AP h f Ao;have h1:=AB F;have L:=As (n:=n) (t:=[40]) h1.wf Ao;have M:=AO (n:=n) L.wf;have h4:=As (n:=n) (t:=[41]) M.wf Ao;have Y:=h4.ok E;obtain ⟨s3,U⟩:=Dg L.wf Y;exact ⟨_,(((EO h f Ao).trans (B4 h1.wf Ao (M.ok Y))).trans s3).trans (B4 M.wf Ao E),G.size U⟩
        . rename_i f;rw [At f];split at E
          . rename_i f;rw [AH f];have F:=AP h f Ao;have U:=Ck F;have h1:=AB F;have L:=(vE 1 (Ap σ) h1.wf).1;have M:=As (n:=n) (t:=[41]) L.wf Ao;obtain ⟨a,N,O,-⟩:=iE 1 (Ap σ) h1.wf Aa (M.ok E);exact ⟨_,(EO h f Ao).trans (N.trans (B4 L.wf Ao E)),G.par O⟩
          . rename_i f;rw [At f];obtain ⟨a,N,O⟩:=iL σ h Aa E;exact ⟨a,N,G.place O⟩
  . rw [Bz] at E ⊢;have h0:=AO (n:=n) h;split at E
    . rename_i f;rw [AH f];have F:=AP h0.wf f Ao;have U:=Ck F;have ag:=BN h0;have h1:=AB F;have L:=(vE 1 _ h1.wf).1;have M:=As (n:=n) (t:=[93]) L.wf Ao;obtain ⟨s0,V⟩:=Dg h F.1;obtain ⟨a,N,O,-⟩:=iE 1 _ h1.wf Aa (M.ok E);exact ⟨_,s0.trans ((EO h0.wf f Ao).trans (N.trans (B4 L.wf Ao E))),G.item V O⟩
    . rename_i f;rw [At f];obtain ⟨s0,V⟩:=Dg h E;exact ⟨_,s0,G.var V⟩
end
def G.valid {f:Nt} {a:CP} {x:Nd} (h:G f a x):match f with
 | .cl _ y=>y.isExpr=true->x.isExpr=true
 | .pl=>x.isPlace=true
 | _=>x.isExpr=true:=by
 induction h with
 | ex _ _ F i2=>exact i2 F
 | cl0=>exact fun h=>h
 | @cl1 lv op t a b x y z h1 M N O U i3 i5=>
  intro E;refine i5 ?_;obtain ⟨-,V,L,-⟩:=Gz h1;unfold mu;rw [At Aa,At Aa,At Aa,At Aa,AH Aa];simp only at i3 E;simp [plain,E,i3]
 | neg _ i=>unfold mu;simp only at i;simp [plain,i]
 | not _ i=>unfold mu;simp only at i;simp [plain,i]
 | num=>unfold mu;simp
 | top h=>unfold mu;simp [named,h]
 | size h=>unfold mu;simp [named,h]
 | par _ i=>exact i
 | place _ i=>simp only [my,ke] at i;exact i.2
 | var h=>simp [my,mu,lZ,named,h]
 | item h _ i=>simp only at i;simp [my,mu,lZ,named,h,i]
inductive NtS where
 | st:NtS
 | bl:NtS
 | ls:NtS
def JL (m:lB):Nd:=.mk 2 0 m []
def OP (l:CP):CP:=l.flatMap fun m=>[[44],m]
def IF:List (lB×Int):=[([112,117,115,104],44),([112,111,112],45)]
def Jl:List (lB×Int):=[([114,101,97,100],46),([117,110,114,101,97,100],47),([119,114,105,116,101],48),([117,110,119,114,105,116,101],49)]
def FG:List (lB×Int):=[([99,97,108,108],50),([117,110,99,97,108,108],51)]
def EJ:List (lB×Int×lB×lB):=[([105,102],52,[101,108,115,101],[102,105]),([102,114,111,109],53,[108,111,111,112],[117,110,116,105,108])]
inductive GS:NtS->CP->List Nd->Prop where
 | stack {kw m:lB} {kd:Int} {a:CP} {x:Nd}:(kw,kd)∈IF->G .pl a x->AS m=true->GS .st (kw::(a++[[44],m])) [.mk kd 0 m [x]]
 | tape {kw:lB} {kd:Int} {a:CP} {x:Nd}:(kw,kd)∈Jl->G .pl a x->GS .st (kw::a) [.mk kd 0 [] [x]]
 | call0 {kw m:lB} {kd:Int}:(kw,kd)∈FG->AS m=true->GS .st [kw,m,[40],[41]] [.mk kd 0 m []]
 | call1 {kw m u:lB} {kd:Int} {l:CP}:(kw,kd)∈FG->AS m=true->AS u=true->(∀v∈l,AS v=true)->l.length<=7->GS .st (kw::m::[40]::u::(OP l++[[41]])) [.mk kd 0 m ((u::l).map JL)]
 | branch {kw mid last:lB} {kd:Int} {a b c d:CP} {x y z u:Nd}:(kw,kd,mid,last)∈EJ->G (.ex 1) a x->GS .bl b [y]->GS .bl c [z]->G (.ex 1) d u->GS .st (kw::(a++(b++(mid::(c++(last::d)))))) [.mk kd 0 [] [x,y,z,u]]
 | lstack {m:lB} {b:CP} {x:Nd}:AS m=true->GS .bl b [x]->GS .st ([108,111,99,97,108]::[115,116,97,99,107]::m::b) [.mk 55 0 m [x]]
 | local_ {m:lB} {a b d:CP} {x y z:Nd}:AS m=true->G (.ex 1) a x->GS .bl b [y]->G (.ex 1) d z->GS .st ([108,111,99,97,108]::m::[61]::(a++(b++([100,101,108,111,99,97,108]::d)))) [.mk 54 0 m [x,y,z]]
 | upd {t:lB} {a b:CP} {x y:Nd}:G .pl a x->CA t≠0->G (.ex 1) b y->GS .st (a++t::b) [.mk (CA t) 0 [] [x,y]]
 | swap {a b:CP} {x y:Nd}:G .pl a x->G .pl b y->GS .st (a++[60,61,62]::b) [.mk 43 0 [] [x,y]]
 | bl {a:CP} {l:List Nd}:GS .ls a l->GS .bl ([123]::(a++[[125]])) [.mk 57 0 [] l]
 | ls0:GS .ls [] []
 | ls1 {a b:CP} {x:Nd} {l:List Nd}:GS .st a [x]->GS .ls b l->GS .ls (a++[59]::b) (x::l)
def EP {m:lB} (h:AS m=true) {t:lB} (f:F8 t=true):m≠t:=by
 rintro rfl;simp only [AS,ke,Bool.not_eq_true'] at h;rw [f] at h;cases h.2
def LG {m:lB} (h:AS m=true) {t:lB} (f:AS t=false):m≠t:=by
 rintro rfl;rw [h] at f;cases f
section
variable {ts:List Tok} {n:Int}
def Xg (k:Nat) : ∀(l E:CP) (acc:List Nd) (σ:PS) (rest:CP),σ.at_<=ts.length->σ.err=0->rem ts σ=OP l++rest->(∀t∈rest.head?,t≠[44])->(∀v∈l,AS v=true)->acc.length+l.length<=8->l.length+1<=k ->
 CK ts n k acc σ=(acc++l.map JL,Df σ (2*l.length)):=by
 induction k with
 | zero=>intro l _ acc σ rest _ _ _ _ _ _ h;omega
 | succ k X=>
  intro l E acc σ rest Y L N O U V Z;rw [CK];cases l with
  | nil=>
   have hh:B1 ts σ [44]=false:=by
    rw [Gc Y L,N];cases rest with
    | nil=>rfl
    | cons t r=>exact decide_eq_false (O t rfl)
   rw [At (by rw [hh];decide)];simp [Df]
  | cons m l=>
   have F:rem ts σ=[44]::(m::(OP l++rest)):=by rw [N];simp [OP]
   have f:=AJ F;have hm:=U m A6;rw [AH (by rw [AX F L];decide),At (by simp only [kf] at V;omega)];unfold DN;rw [BI,Cx f L hm];simp only;simp only [kf] at V Z;have M:=GJ f;rw [X l [] _ (Df (Df σ 1) 1) rest M L (AJ f) O (fun v hv=>U v (by simp [hv])) (by simp only [j9,kf,ki];omega) Aa,Bd,Bd];refine Prod.ext ?_ (congrArg (Df σ) (by simp only [kf];omega));simp [JL]
def GS.st_head {a:CP} {l:List Nd} (h:GS .st a l) : ∃t r,a=t::r/\t≠[125]/\t≠[]:=by
 cases h with
 | stack h=>refine ⟨_,_,rfl,?_⟩;simp only [IF,kF,kX,kI,or_false] at h;rcases h with ⟨rfl,-⟩|⟨rfl,-⟩<;>decide
 | tape h=>refine ⟨_,_,rfl,?_⟩;simp only [Jl,kF,kX,kI,or_false] at h;rcases h with ⟨rfl,-⟩|⟨rfl,-⟩|⟨rfl,-⟩|⟨rfl,-⟩<;>decide
 | call0 h=>refine ⟨_,_,rfl,?_⟩;simp only [FG,kF,kX,kI,or_false] at h;rcases h with ⟨rfl,-⟩|⟨rfl,-⟩<;>decide
 | call1 h=>refine ⟨_,_,rfl,?_⟩;simp only [FG,kF,kX,kI,or_false] at h;rcases h with ⟨rfl,-⟩|⟨rfl,-⟩<;>decide
 | branch h=>refine ⟨_,_,rfl,?_⟩;simp only [EJ,kF,kX,kI,or_false] at h;rcases h with ⟨rfl,-⟩|⟨rfl,-⟩<;>decide
 | lstack=>exact ⟨_,_,rfl,Ao⟩
 | local_=>exact ⟨_,_,rfl,Ao⟩
 | upd h=>obtain ⟨m,r,rfl,f⟩:=h.pl_head;exact ⟨m,_,rfl,LG f Ao,FB f⟩
 | swap h=>obtain ⟨m,r,rfl,f⟩:=h.pl_head;exact ⟨m,_,rfl,LG f Ao,FB f⟩
def GS.bl_head {a:CP} {l:List Nd} (h:GS .bl a l) : ∃r,a=[123]::r:=by
 cases h with
 | bl _=>exact ⟨_,rfl⟩
def gL (ts:List Tok) (n:Int):NtS->CP->List Nd->Prop
 | .st,a,l=> ∀(σ:PS) (k:Nat) (rest:CP),σ.at_<=ts.length->σ.err=0->rem ts σ=a++([59]::rest)->4*a.length+6<=k->([(Bm ts n k σ).1],(Bm ts n k σ).2)=(l,Df σ a.length)
 | .bl,a,l=> ∀(σ:PS) (k:Nat) (rest:CP),σ.at_<=ts.length->σ.err=0->rem ts σ=a++rest->4*a.length+4<=k->([(Co ts n k σ).1],(Co ts n k σ).2)=(l,Df σ a.length)
 | .ls,a,l=>(∀(σ:PS) (k:Nat) (acc:List Nd) (rest:CP),σ.at_<=ts.length->σ.err=0->rem ts σ=a++([125]::rest)->4*a.length+7<=k->Cz ts n k acc σ=(acc++l,Df σ (a.length+1))) /\
  (∀(σ:PS) (k:Nat) (acc:List Nd),σ.at_<=ts.length->σ.err=0->rem ts σ=a->4*a.length+7<=k->QA ts n k acc σ=(acc++l,Df σ a.length))
def EK {x:Nd} {σ σ':PS} {p:Nd×PS} (h:p=(x,σ')):([p.1],p.2)=([x],σ'):=by rw [h]
def GO {x:Nd} {σ':PS} {p:Nd×PS} (h:([p.1],p.2)=([x],σ')):p=(x,σ'):=by
 simp only [kX,kQ,and_true] at h;exact Prod.ext h.1 h.2
def G.reads_ex (f:AZ ts) {lv:Int} {a:CP} {x:Nd} (h:G (.ex lv) a x) {σ:PS} {k:Nat} {rest:CP} (E:σ.at_<=ts.length) (F:σ.err=0) (L:rem ts σ=a++rest) (M:IQ lv rest) (N:ME rest) (O:4*a.length+4<=k):Bu ts n k lv σ=(x,Df σ a.length):=h.reads f σ k rest E F L M N O
def G.reads_pl (f:AZ ts) {a:CP} {x:Nd} (h:G .pl a x) {σ:PS} {k:Nat} {rest:CP} (E:σ.at_<=ts.length) (F:σ.err=0) (L:rem ts σ=a++rest) (M:ME rest) (N:4*a.length+1<=k):Bz ts n k σ=(x,Df σ a.length):=h.reads f σ k rest E F L M N
def cH {t:lB} (h:CA t≠0):t≠[91]/\t≠[60,61,62]/\Ff t=none:=by
 unfold CA at h;by_cases h1:t=[43,61]
 . subst h1;decide
 by_cases f:t=[45,61]
 . subst f;decide
 by_cases E:t=[94,61]
 . subst E;decide
 by_cases F:t=[58,61]
 . subst F;decide
 simp [h1,f,E,F] at h
def S6 {σ:PS} {m:lB} {b:CP} (h:rem ts σ=m::b) (E:σ.err=0) (f:AS m=true) (k:Nat):Bm ts n (k+1) σ=Di ts n k σ:=by
 rw [Bm,B7 h E,At (EP f Ao),At (EP f Ao),At (EP f Ao),At (EP f Ao),At (EP f Ao),At (EP f Ao),At (EP f Ao),At (EP f Ao),At (EP f Ao),At (EP f Ao),At (EP f Ao)]
end
section
variable {ts:List Tok} {n:Int}
def C5 {σ:PS} {t:lB} {b:CP} (h:rem ts σ=t::b):(Df σ 1).at_<=ts.length:=GJ h
def Zp (l:CP):(OP l).length=2*l.length:=by
 induction l with
 | nil=>rfl
 | cons x r f=>
  have e:OP (x::r)=[44]::x::OP r:=rfl;rw [e];simp only [kf,f];omega
def N8 {σ:PS} {kw:lB} {kd:Int} (h:(kw,kd)∈IF) (f:(Aq ts σ).text=kw) (k:Nat):Bm ts n (k+1) σ=Fy ts n k kd σ:=by
 simp only [IF,kF,kX,kI,or_false] at h;rcases h with ⟨rfl,rfl⟩|⟨rfl,rfl⟩
 . rw [Bm,f,AH rfl]
 . rw [Bm,f,At Ao,AH rfl]
def PV {σ:PS} {kw:lB} {kd:Int} (h:(kw,kd)∈Jl) (f:(Aq ts σ).text=kw) (k:Nat):Bm ts n (k+1) σ=Gs ts n k kd σ:=by
 simp only [Jl,kF,kX,kI,or_false] at h;rcases h with ⟨rfl,rfl⟩|⟨rfl,rfl⟩|⟨rfl,rfl⟩|⟨rfl,rfl⟩
 . rw [Bm,f,At Ao,At Ao,AH rfl]
 . rw [Bm,f,At Ao,At Ao,At Ao,AH rfl]
 . rw [Bm,f,At Ao,At Ao,At Ao,At Ao,AH rfl]
 . rw [Bm,f,At Ao,At Ao,At Ao,At Ao,At Ao,AH rfl]
def LH {σ:PS} {kw:lB} {kd:Int} (h:(kw,kd)∈FG) (f:(Aq ts σ).text=kw) (k:Nat):Bm ts n (k+1) σ=Ft ts n k kd σ:=by
 simp only [FG,kF,kX,kI,or_false] at h;rcases h with ⟨rfl,rfl⟩|⟨rfl,rfl⟩
 . rw [Bm,f,At Ao,At Ao,At Ao,At Ao,At Ao,At Ao,AH rfl]
 . rw [Bm,f,At Ao,At Ao,At Ao,At Ao,At Ao,At Ao,At Ao,AH rfl]
def Mo {σ:PS} {kw E f:lB} {kd:Int} (h:(kw,kd,E,f)∈EJ) (F:(Aq ts σ).text=kw) (k:Nat):Bm ts n (k+1) σ=BM ts n k kd E f σ:=by
 simp only [EJ,kF,kX,kI,or_false] at h;rcases h with ⟨rfl,rfl,rfl,rfl⟩|⟨rfl,rfl,rfl,rfl⟩
 . rw [Bm,F,At Ao,At Ao,At Ao,At Ao,At Ao,At Ao,At Ao,At Ao,AH rfl]
 . rw [Bm,F,At Ao,At Ao,At Ao,At Ao,At Ao,At Ao,At Ao,At Ao,At Ao,AH rfl]
def Kd {σ:PS} (f:(Aq ts σ).text=[108,111,99,97,108]) (k:Nat):Bm ts n (k+1) σ=Dy ts n k σ:=by
 rw [Bm,f,At Ao,At Ao,At Ao,At Ao,At Ao,At Ao,At Ao,At Ao,At Ao,At Ao,AH rfl]
def Xh {kw E f:lB} {kd:Int} (h:(kw,kd,E,f)∈EJ):E≠[]/\f≠[]:=by
 simp only [EJ,kF,kX,kI,or_false] at h;rcases h with ⟨rfl,rfl,rfl,rfl⟩|⟨rfl,rfl,rfl,rfl⟩<;>decide
def GS.reads (hd:AZ ts) {nt:NtS} {a:CP} {l:List Nd} (h:GS nt a l):gL ts n nt a l:=by
 induction h with
 | @stack kw m kd a x h1 V h3=>
  intro σ k rest X F N O;simp only [kf,j9,ki] at O ⊢;obtain ⟨k,rfl⟩ : ∃j,k=j+1:=⟨k-1,Aa⟩
  have f:rem ts σ=kw::(a++([44]::m::([59]::rest))):=by rw [N];simp
  have E:=AJ f;have L:=Cv E;have M:=AJ L;refine EK (σ:=σ) ?_;rw [N8 h1 (B7 f F)];unfold Fy;simp only;rw [BI,V.reads_pl hd (C5 f) F E (D1 Ao) Aa];simp only;rw [A4 L F,Cx M F h3];simp only [Bd];exact Prod.ext rfl (congrArg (Df σ) Aa)
 | @tape kw kd a x h1 V=>
  intro σ k rest X F N O;simp only [kf] at O ⊢;obtain ⟨k,rfl⟩ : ∃j,k=j+1:=⟨k-1,Aa⟩;have f:rem ts σ=kw::(a++([59]::rest)):=N;have E:=AJ f;refine EK (σ:=σ) ?_;rw [PV h1 (B7 f F)];unfold Gs;rw [BI,V.reads_pl hd (C5 f) F E (D1 Ao) Aa];simp only [Bd];exact Prod.ext rfl (congrArg (Df σ) Aa)
 | @call0 kw m kd h1 V=>
  intro σ k rest X F N O;simp only [kf,ki] at O ⊢;obtain ⟨k,rfl⟩ : ∃j,k=j+1:=⟨k-1,Aa⟩;have f:rem ts σ=kw::(m::([40]::([41]::([59]::rest)))):=N;have E:=AJ f;have L:=AJ E;have M:=AJ L;refine EK (σ:=σ) ?_;rw [LH h1 (B7 f F)];unfold Ft;simp only;rw [BI,Cx E F V];simp only;rw [A4 L F,AX M F,AH Ao];simp only [BI,Bd]
 | @call1 kw m u kd l h1 V h3 h4 h5=>
  intro σ k rest X F N O;have ac:=Zp l;simp only [kf,j9,ki] at O ⊢;obtain ⟨k,rfl⟩ : ∃j,k=j+1:=⟨k-1,Aa⟩
  have f:rem ts σ=kw::(m::([40]::(u::(OP l++([41]::([59]::rest)))))):=by rw [N];simp
  have E:=AJ f;have L:=AJ E;have M:=AJ L;have Y:=AJ M;have U:=Cv Y;refine EK (σ:=σ) ?_;rw [LH h1 (B7 f F)];unfold Ft DN;simp only;rw [BI,Cx E F V];simp only;rw [A4 L F,AX M F,At (by simpa using LG h3 Ao),Cx M F h3];simp only;rw [Xg k l [] _ _ _ (C5 M) F Y A6 h4 (by simp only [kf,ki];omega) Aa];simp only;rw [ac] at U;rw [A4 U F];simp only [Bd];exact Prod.ext (by simp [JL]) (congrArg (Df σ) Aa)
 | @branch kw ad ab kd a b c d x y z u h1 V h3 h4 h5 i3 i4=>
  intro σ k rest X F N O;simp only [kf,j9] at O ⊢;obtain ⟨k,rfl⟩ : ∃j,k=j+2:=⟨k-2,Aa⟩
  have f:rem ts σ=kw::(a++(b++(ad::(c++(ab::(d++([59]::rest))))))):=by rw [N];simp
  have E:=AJ f;have L:=Cv E;have M:=Cv L;have Y:=AJ M;have U:=Cv Y;have aa:=AJ U;obtain ⟨b',Z⟩:=h3.bl_head;have w2:=C5 f;have w3:=GM w2 E;have w5:=C5 M;have w7:=C5 U;refine EK (σ:=σ) ?_;rw [Mo h1 (B7 f F),BM];(try simp only);rw [BI,V.reads_ex hd w2 F E (by rw [Z];exact GN Ao) (by rw [Z];exact D1 Ao) Aa];simp only;rw [GO (i3 (Df (Df σ 1) a.length) k _ w3 F L Aa)];simp only;rw [A4 M F,GO (i4 _ k _ w5 F Y Aa)];simp only;rw [A4 U F,h5.reads_ex hd w7 F aa (GN Ao) (D1 Ao) Aa];simp only [Bd];exact Prod.ext rfl (congrArg (Df σ) Aa)
 | @lstack m b x h1 V i2=>
  intro σ k rest X F N O;simp only [kf] at O ⊢;obtain ⟨k,rfl⟩ : ∃j,k=j+2:=⟨k-2,Aa⟩;have f:rem ts σ=[108,111,99,97,108]::([115,116,97,99,107]::(m::(b++([59]::rest)))):=N;have E:=AJ f;have L:=AJ E;have M:=AJ L;refine EK (σ:=σ) ?_;rw [Kd (B7 f F),Dy];simp only;rw [BI,AH (by rw [AX E F];decide),BI,Cx L F h1];simp only;rw [GO (i2 (Df (Df (Df σ 1) 1) 1) k _ (C5 L) F M Aa)];simp only [Bd];exact Prod.ext rfl (congrArg (Df σ) Aa)
 | @local_ m a b d x y z h1 V h3 h4 i3=>
  intro σ k rest X F N O;simp only [kf,j9] at O ⊢;obtain ⟨k,rfl⟩ : ∃j,k=j+2:=⟨k-2,Aa⟩
  have f:rem ts σ=[108,111,99,97,108]::(m::([61]::(a++(b++([100,101,108,111,99,97,108]::(d++([59]::rest))))))):=by rw [N];simp
  have E:=AJ f;have L:=AJ E;have M:=AJ L;have Y:=Cv M;have U:=Cv Y;have aa:=AJ U;obtain ⟨b',Z⟩:=h3.bl_head;have w4:=C5 L;have w5:=GM w4 M;have w7:=C5 U;refine EK (σ:=σ) ?_;rw [Kd (B7 f F),Dy];simp only;rw [BI,At (by rw [AX E F];simpa using EP h1 Ao),Cx E F h1];simp only;rw [A4 L F,V.reads_ex hd w4 F M (by rw [Z];exact GN Ao) (by rw [Z];exact D1 Ao) Aa];simp only;rw [GO (i3 _ k _ w5 F Y Aa)];simp only;rw [A4 U F,h4.reads_ex hd w7 F aa (GN Ao) (D1 Ao) Aa];simp only [Bd];exact Prod.ext rfl (congrArg (Df σ) Aa)
 | @upd t a b x y h1 V h3=>
  intro σ k rest X F N O;simp only [kf,j9] at O ⊢;obtain ⟨k,rfl⟩ : ∃j,k=j+1:=⟨k-1,Aa⟩;obtain ⟨n1,n2,n3⟩:=cH V;have f:rem ts σ=a++(t::(b++([59]::rest))):=by rw [N];simp
  have E:=Cv f;have L:=AJ E;obtain ⟨m,r,rfl,hm⟩:=h1.pl_head;refine EK (σ:=σ) ?_;rw [S6 f F hm];unfold Di;simp only;rw [h1.reads_pl hd X F f (D1 n1) Aa];simp only;rw [At (by rw [AX E F];simpa using n2),B7 E F,At V,BI,h3.reads_ex hd (C5 E) F L (GN Ao) (D1 Ao) Aa];simp only [Bd];exact Prod.ext rfl (congrArg (Df σ) Aa)
 | @swap a b x y h1 V=>
  intro σ k rest X F N O;simp only [kf,j9] at O ⊢;obtain ⟨k,rfl⟩ : ∃j,k=j+1:=⟨k-1,Aa⟩
  have f:rem ts σ=a++([60,61,62]::(b++([59]::rest))):=by rw [N];simp
  have E:=Cv f;have L:=AJ E;obtain ⟨m,r,rfl,hm⟩:=h1.pl_head;refine EK (σ:=σ) ?_;rw [S6 f F hm];unfold Di;simp only;rw [h1.reads_pl hd X F f (D1 Ao) Aa];simp only;rw [AH (by rw [AX E F];decide),BI,V.reads_pl hd (C5 E) F L (D1 Ao) Aa];simp only [Bd];exact Prod.ext rfl (congrArg (Df σ) Aa)
 | @bl a l h1 i1=>
  intro σ k rest X F N O;simp only [kf,j9,ki] at O ⊢;obtain ⟨k,rfl⟩ : ∃j,k=j+1:=⟨k-1,Aa⟩
  have f:rem ts σ=[123]::(a++([125]::rest)):=by rw [N];simp
  have E:=AJ f;refine EK (σ:=σ) ?_;rw [Co];(try simp only);rw [A4 f F,i1.1 (Df σ 1) k [] rest (C5 f) F E Aa];simp only [lk,Bd];exact Prod.ext rfl (congrArg (Df σ) Aa)
 | ls0=>
  refine ⟨fun σ k acc rest X F N O=>?_,fun σ k acc X F N O=>?_⟩
  . obtain ⟨k,rfl⟩ : ∃j,k=j+1:=⟨k-1,Aa⟩
    have f:rem ts σ=[125]::rest:=N;rw [Cz,At (fun h=>h F),AX f F,AH Ao];simp [BI]
  . obtain ⟨k,rfl⟩ : ∃j,k=j+1:=⟨k-1,Aa⟩
    have:=JF (ts:=ts) σ;rw [N] at this;rw [QA,At (fun h=>by simp at this;omega)];simp [Df]
 | @ls1 a b x l h1 V i1 i2=>
  obtain ⟨t,r,rfl,ht,-⟩:=h1.st_head;refine ⟨fun σ k acc rest X F N O=>?_,fun σ k acc X F N O=>?_⟩
  . simp only [j9,kf] at O ⊢;obtain ⟨k,rfl⟩ : ∃j,k=j+1:=⟨k-1,Aa⟩
    have f:rem ts σ=(t::r)++([59]::(b++([125]::rest))):=by rw [N];simp
    have E:=Cv f;have L:=AJ E;rw [Cz,At (fun h=>h F),AX f F,At (by simpa using ht),GO (i1 σ k _ X F f (by simp only [kf];omega))];simp only;rw [A4 E F,i2.1 _ k _ rest (C5 E) F L Aa];simp only [Bd,kf];exact Prod.ext A6 (congrArg (Df σ) Aa)
  . simp only [j9,kf] at O ⊢;obtain ⟨k,rfl⟩ : ∃j,k=j+1:=⟨k-1,Aa⟩;have f:rem ts σ=(t::r)++([59]::b):=N;have E:=Cv f;have L:=AJ E;rw [QA,AH ⟨F,GJ f⟩,GO (i1 σ k _ X F f (by simp only [kf];omega))];simp only;rw [A4 E F,i2.2 _ k _ (C5 E) F L Aa];simp only [Bd,kf];exact Prod.ext A6 (congrArg (Df σ) Aa)
end
section
variable {ts:List Tok} {n:Int} {I:PS->Prop}
structure Clo (ts:List Tok) (n:Int) (I:PS->Prop):Prop where
 next : ∀ σ,In ts σ->I σ->I (Ap σ)
 unexp : ∀ σ,σ.at_<=ts.length->I σ->I (Dl ts n σ)
 full : ∀ σ,In ts σ->I σ->I (BE σ (Aq ts σ).pos 5)
 range : ∀ σ,In ts σ->I σ->I (BE (Ap σ) (Aq ts σ).pos 2)
def Clo.expect (C:Clo ts n I) {σ:PS} {t:lB} (h:σ.at_<=ts.length) (ht:t≠[]) (i:I σ):I (Az ts n σ t):=by
 unfold Az;split
 . rename_i hh;exact C.next _ (AP h hh ht) i
 . exact C.unexp _ h i
def Clo.name (C:Clo ts n I) {σ:PS} (h:σ.at_<=ts.length) (i:I σ):I (A2 ts n σ).2:=by
 unfold A2;split
 . rename_i hh;exact C.next _ (Cc h (kj (FB hh))) i
 . exact C.unexp _ h i
def Clo.number (C:Clo ts n I) {a b:Int} {σ:PS} (h:σ.at_<=ts.length) (i:I σ):I (BP ts n a b σ).2:=by
 unfold BP;split
 . rename_i hh;have hn:=Cc h (kp (by rw [hh];decide));split
   . exact C.next _ hn i
   . exact C.range _ hn i
 . exact C.unexp _ h i
def Clo.exprs (C:Clo ts n I) (k:Nat):(∀lv σ,σ.at_<=ts.length->I σ->I (Bu ts n k lv σ).2)/\(∀lv x σ,σ.at_<=ts.length->I σ->I (BQ ts n k lv x σ).2) /\
 (∀ σ,σ.at_<=ts.length->I σ->I (Ba ts n k σ).2)/\(∀ σ,σ.at_<=ts.length->I σ->I (Be ts n k σ).2)/\(∀ σ,σ.at_<=ts.length->I σ->I (Bz ts n k σ).2):=by
 induction k with
 | zero=>
  refine ⟨fun lv σ h i=>?_,fun lv x σ h i=>?_,fun σ h i=>?_,fun σ h i=>?_,fun σ h i=>?_⟩
  . rw [Bu];exact i
  . rw [BQ];exact i
  . rw [Ba];exact i
  . rw [Be];exact i
  . rw [Bz];exact i
 | succ k ih=>
  obtain ⟨iE,iC,iU,iP,iL⟩:=ih;obtain ⟨vE,vC,vU,vP,vL⟩:=Fm (ts:=ts) (n:=n) k;refine ⟨fun lv σ h i=>?_,fun lv x σ h i=>?_,fun σ h i=>?_,fun σ h i=>?_,fun σ h i=>?_⟩
  . rw [Bu];exact iC _ _ _ (vU σ h).1.wf (iU _ h i)
  . rw [BQ];split
    . exact i
    . rename_i op hop;obtain ⟨hne,-⟩:=Gz hop;have hn:=Cc h (kj hne);split
      . exact i
      . have h1:=AB hn;have h2:=vE (Bv op+1) (Ap σ) h1.wf;exact iC _ _ _ h2.1.wf (iE _ _ h1.wf (C.next _ hn i))
  . rw [Ba];split
    . rename_i hh;have hn:=AP h hh Ao;exact iU _ (AB hn).wf (C.next _ hn i)
    . split
      . rename_i hh;have hn:=AP h hh Ao;exact iU _ (AB hn).wf (C.next _ hn i)
      . exact iP _ h i
  . rw [Be];split
    . exact C.number h i
    . split
      . rename_i hh;have hn:=AP h hh Ao;have h1:=AB hn;have h2:=As (n:=n) (t:=[40]) h1.wf Ao;have h3:=AO (n:=n) h2.wf;exact C.expect h3.wf Ao (C.name h2.wf (C.expect h1.wf Ao (C.next _ hn i)))
      . split
        . rename_i hh;have hn:=AP h hh Ao;have h1:=AB hn;have h2:=As (n:=n) (t:=[40]) h1.wf Ao;have h3:=AO (n:=n) h2.wf;exact C.expect h3.wf Ao (C.name h2.wf (C.expect h1.wf Ao (C.next _ hn i)))
        . split
          . rename_i hh;have hn:=AP h hh Ao;have h1:=AB hn;exact C.expect (vE 1 _ h1.wf).1.wf Ao (iE _ _ h1.wf (C.next _ hn i))
          . exact iL _ h i
  . rw [Bz];have h0:=AO (n:=n) h;split
    . rename_i hh;have hn:=AP h0.wf hh Ao;have h1:=AB hn;exact C.expect (vE 1 _ h1.wf).1.wf Ao (iE _ _ h1.wf (C.next _ hn (C.name h i)))
    . exact C.name h i
def Clo.expr (C:Clo ts n I) {k:Nat} {lv:Int} {σ:PS} (h:σ.at_<=ts.length) (i:I σ):I (Bu ts n k lv σ).2:=(C.exprs k).1 lv σ h i
def Clo.place (C:Clo ts n I) {k:Nat} {σ:PS} (h:σ.at_<=ts.length) (i:I σ):I (Bz ts n k σ).2:=(C.exprs k).2.2.2.2 σ h i
def JG {k:Nat} {σ:PS} (h:σ.at_<=ts.length):Le ts σ (Bz ts n k σ).2:=((Fm (ts:=ts) (n:=n) k).2.2.2.2 σ h).1
def Clo.args (C:Clo ts n I) (k:Nat) : ∀acc σ,σ.at_<=ts.length->I σ->I (CK ts n k acc σ).2:=by
 induction k with
 | zero=>intro acc σ h i;rw [CK];exact i
 | succ k ih=>
  intro acc σ h i;rw [CK];split
  . rename_i hh;have hn:=AP h hh Ao;have h1:=AB hn;have i1:=C.next _ hn i;split
    . rename_i h8;have l2:=B6 (ts:=ts) h1.wf (Aq ts (Ap σ)).pos 5;exact ih _ _ (AO (n:=n) l2.wf).wf (C.name l2.wf (C.full _ (Cc h1.wf (kj (FB h8.2))) i1))
    . exact ih _ _ (AO (n:=n) h1.wf).wf (C.name h1.wf i1)
  . exact i
def K5 (k:Nat) : ∀acc σ,σ.at_<=ts.length->Le ts σ (CK ts n k acc σ).2:=by
 induction k with
 | zero=>intro acc σ h;rw [CK];exact mp h
 | succ k E=>
  intro acc σ h;rw [CK];split
  . rename_i L;have h1:=AB (AP h L Ao);split
    . have F:=h1.trans (B6 (ts:=ts) h1.wf (Aq ts (Ap σ)).pos 5);have f:=F.trans (AO (n:=n) F.wf);exact f.trans (E _ _ f.wf)
    . have f:=h1.trans (AO (n:=n) h1.wf);exact f.trans (E _ _ f.wf)
  . exact mp h
def Clo.call (C:Clo ts n I) {k:Nat} {kind:Int} {σ:PS} (h:In ts σ) (i:I σ):I (Ft ts n k kind σ).2:=by
 unfold Ft;have h1:=AB h;have h2:=AO (n:=n) h1.wf;have h3:=As (n:=n) (t:=[40]) h2.wf Ao;have i3:=C.expect (t:=[40]) h2.wf Ao (C.name h1.wf (C.next _ h i));simp only;split
 . rename_i hh;exact C.next _ (AP h3.wf hh Ao) i3
 . have h4:=AO (n:=n) h3.wf;exact C.expect (K5 k _ _ h4.wf).wf Ao (C.args k _ _ h4.wf (C.name h3.wf i3))
def Clo.update (C:Clo ts n I) {k:Nat} {σ:PS} (h:σ.at_<=ts.length) (i:I σ):I (Di ts n k σ).2:=by
 unfold Di;have h1:=JG (n:=n) (k:=k) h;have i1:=C.place (k:=k) h i;simp only;split
 . rename_i hh;have hn:=AP h1.wf hh Ao;exact C.place (AB hn).wf (C.next _ hn i1)
 . split
   . exact C.unexp _ h1.wf i1
   . rename_i hh;have hn:=Cc h1.wf (kj (Ns hh));exact C.expr (AB hn).wf (C.next _ hn i1)
def Clo.stack (C:Clo ts n I) {k:Nat} {kind:Int} {σ:PS} (h:In ts σ) (i:I σ):I (Fy ts n k kind σ).2:=by
 unfold Fy;have h1:=AB h;have h2:=JG (n:=n) (k:=k) h1.wf;have h3:=As (n:=n) (t:=[44]) h2.wf Ao;exact C.name h3.wf (C.expect h2.wf Ao (C.place h1.wf (C.next _ h i)))
def Clo.tape (C:Clo ts n I) {k:Nat} {kind:Int} {σ:PS} (h:In ts σ) (i:I σ):I (Gs ts n k kind σ).2:=by
 unfold Gs;exact C.place (AB h).wf (C.next _ h i)
def Clo.stmts (C:Clo ts n I) (k:Nat):(∀ σ,σ.at_<=ts.length->I σ->I (Bm ts n k σ).2)/\(∀kind mid last σ,In ts σ->mid≠[]->last≠[]->I σ->I (BM ts n k kind mid last σ).2)/\(∀ σ,In ts σ->I σ->I (Dy ts n k σ).2) /\
 (∀ σ,σ.at_<=ts.length->I σ->I (Co ts n k σ).2)/\(∀acc σ,σ.at_<=ts.length->I σ->I (Cz ts n k acc σ).2):=by
 induction k with
 | zero=>
  refine ⟨fun σ h i=>?_,fun kind mid last σ h _ _ i=>?_,fun σ h i=>?_,fun σ h i=>?_,fun acc σ h i=>?_⟩
  . rw [Bm];exact i
  . rw [BM];exact i
  . rw [Dy];exact i
  . rw [Co];exact i
  . rw [Cz];exact i
 | succ k ih=>
  obtain ⟨iS,iB,iL,iK,iT⟩:=ih;obtain ⟨vS,vB,vL,vK,vT⟩:=Ei (ts:=ts) (n:=n) k;refine ⟨fun σ h i=>?_,fun kind mid last σ hn hmid hlast i=>?_,fun σ hn i=>?_,fun σ h i=>?_,fun acc σ h i=>?_⟩
  . rw [Bm];have hin : ∀t:lB,t≠[]->(Aq ts σ).text=t->In ts σ:=fun t ht e=>Cc h (kj (by rw [e];exact ht))
    by_cases c:(Aq ts σ).text=[112,117,115,104]
    . rw [AH c];exact C.stack (hin _ Ao c) i
    rw [At c];clear c;by_cases c:(Aq ts σ).text=[112,111,112]
    . rw [AH c];exact C.stack (hin _ Ao c) i
    rw [At c];clear c;by_cases c:(Aq ts σ).text=[114,101,97,100]
    . rw [AH c];exact C.tape (hin _ Ao c) i
    rw [At c];clear c;by_cases c:(Aq ts σ).text=[117,110,114,101,97,100]
    . rw [AH c];exact C.tape (hin _ Ao c) i
    rw [At c];clear c;by_cases c:(Aq ts σ).text=[119,114,105,116,101]
    . rw [AH c];exact C.tape (hin _ Ao c) i
    rw [At c];clear c;by_cases c:(Aq ts σ).text=[117,110,119,114,105,116,101]
    . rw [AH c];exact C.tape (hin _ Ao c) i
    rw [At c];clear c;by_cases c:(Aq ts σ).text=[99,97,108,108]
    . rw [AH c];exact C.call (hin _ Ao c) i
    rw [At c];clear c;by_cases c:(Aq ts σ).text=[117,110,99,97,108,108]
    . rw [AH c];exact C.call (hin _ Ao c) i
    rw [At c];clear c;by_cases c:(Aq ts σ).text=[105,102]
    . rw [AH c];exact iB _ _ _ _ (hin _ Ao c) Ao Ao i
    rw [At c];clear c;by_cases c:(Aq ts σ).text=[102,114,111,109]
    . rw [AH c];exact iB _ _ _ _ (hin _ Ao c) Ao Ao i
    rw [At c];clear c;by_cases c:(Aq ts σ).text=[108,111,99,97,108]
    . rw [AH c];exact iL _ (hin _ Ao c) i
    rw [At c];clear c;exact C.update h i
  . rw [BM];have h1:=AB hn;have h2:=DZ (n:=n) (k:=k) (lv:=1) h1.wf;have h3:=vK _ h2.wf;have h4:=As (n:=n) (t:=mid) h3.wf hmid;have h5:=vK _ h4.wf;have h6:=As (n:=n) (t:=last) h5.wf hlast;exact C.expr h6.wf (C.expect h5.wf hlast (iK _ h4.wf (C.expect h3.wf hmid (iK _ h2.wf (C.expr h1.wf (C.next _ hn i))))))
  . rw [Dy];have h1:=AB hn;have i1:=C.next _ hn i;split
    . rename_i hh;have a:=AP h1.wf hh Ao;have h2:=AB a;exact iK _ (AO (n:=n) h2.wf).wf (C.name h2.wf (C.next _ a i1))
    . have h2:=AO (n:=n) h1.wf;have h3:=As (n:=n) (t:=[61]) h2.wf Ao;have h4:=DZ (n:=n) (k:=k) (lv:=1) h3.wf;have h5:=vK _ h4.wf;have h6:=As (n:=n) (t:=[100,101,108,111,99,97,108]) h5.wf Ao;exact C.expr h6.wf (C.expect h5.wf Ao (iK _ h4.wf (C.expr h3.wf (C.expect h2.wf Ao (C.name h1.wf i1)))))
  . rw [Co];exact iT _ _ (As (n:=n) (t:=[123]) h Ao).wf (C.expect h Ao i)
  . rw [Cz];split
    . exact i
    . split
      . rename_i hh;exact C.next _ (AP h hh Ao) i
      . have h1:=vS _ h;exact iT _ _ (As (n:=n) (t:=[59]) h1.wf Ao).wf (C.expect h1.wf Ao (iS _ h i))
def Clo.decl (C:Clo ts n I) {σ:PS} (h:σ.at_<=ts.length) (i:I σ):I (Bp ts n σ).2:=by
 unfold Bp;split
 . rename_i hh;have hn:=AP h hh Ao;exact C.name (AB hn).wf (C.next _ hn i)
 . split
   . rename_i hh;have hn:=AP h hh Ao;exact C.name (AB hn).wf (C.next _ hn i)
   . split
     . rename_i hh;have hn:=AP h hh Ao;have h1:=AB hn;have h2:=AO (n:=n) h1.wf;have h3:=As (n:=n) (t:=[91]) h2.wf Ao;have h4:=Gg (n:=n) (a:=1) (b:=16) h3.wf;exact C.expect h4.wf Ao (C.number h3.wf (C.expect h2.wf Ao (C.name h1.wf (C.next _ hn i))))
     . exact C.unexp _ h i
def PW {σ:PS} (h:σ.at_<=ts.length) (f:Cb ts σ=true):In ts σ:=by
 simp only [Cb,Bool.or_eq_true] at f;rcases f with (c|c)|c<;>exact AP h c Ao
def Clo.params (C:Clo ts n I) (k:Nat) : ∀acc σ,σ.at_<=ts.length->I σ->I (Bi ts n k acc σ).2:=by
 induction k with
 | zero=>intro acc σ h i;rw [Bi];exact i
 | succ k ih=>
  intro acc σ h i;rw [Bi];split
  . rename_i hh;have hn:=AP h hh Ao;have h1:=AB hn;have i1:=C.next _ hn i;simp only;split
    . rename_i h8;have l2:=B6 (ts:=ts) h1.wf (Aq ts (Ap σ)).pos 5;exact ih _ _ (CB (n:=n) l2.wf).wf (C.decl l2.wf (C.full _ (PW h1.wf h8.2) i1))
    . exact ih _ _ (CB (n:=n) h1.wf).wf (C.decl h1.wf i1)
  . exact i
structure CloL (ts:List Tok) (n:Int) (I:PS->Prop):Prop extends Clo ts n I where
 lim : ∀ σ x τ,σ.at_<=ts.length->I σ->I τ->I (D7 x (Aq ts σ).pos τ)
def CloL.body (C:CloL ts n I) {k:Nat} {σ:PS} (h:σ.at_<=ts.length) (i:I σ):I (EZ ts n k σ).2:=by
 unfold EZ;exact C.lim _ _ _ h i ((C.toClo.stmts k).2.2.2.1 _ h i)
def CloL.proc (C:CloL ts n I) {k:Nat} {σ:PS} (h:σ.at_<=ts.length) (i:I σ):I (Dk ts n k σ).2:=by
 rw [GF];have h1:=As (n:=n) (t:=[112,114,111,99]) h Ao;have h2:=AO (n:=n) h1.wf;have h3:=As (n:=n) (t:=[40]) h2.wf Ao;have i3:=C.expect (t:=[40]) h2.wf Ao (C.name h1.wf (C.expect (t:=[112,114,111,99]) h Ao i));have h4:=GE (n:=n) (k:=k) h3.wf;refine C.body h4.wf ?_;unfold G1;split
 . rename_i hh;exact C.next _ (AP h3.wf hh Ao) i3
 . have h5:=CB (n:=n) h3.wf;exact C.expect (FD (n:=n) k _ _ h5.wf).wf Ao (C.params k _ _ h5.wf (C.decl h3.wf i3))
def CloL.vars (C:CloL ts n I) (k:Nat) : ∀acc σ,σ.at_<=ts.length->I σ->I (Do ts n k acc σ).2:=by
 induction k with
 | zero=>intro acc σ h i;rw [Do];exact i
 | succ k f=>
  intro acc σ h i;rw [Do];split
  . rename_i F;simp only;split
    . have E:=B6 (ts:=ts) h (Aq ts σ).pos 5;exact f _ _ (CB (n:=n) E.wf).wf (C.decl E.wf (C.full _ (PW h F) i))
    . exact f _ _ (CB (n:=n) h).wf (C.decl h i)
  . exact i
def CloL.procs (C:CloL ts n I) (k:Nat) : ∀acc σ,σ.at_<=ts.length->I σ->I (B0 ts n k acc σ).2:=by
 induction k with
 | zero=>intro acc σ h i;rw [B0];exact i
 | succ k f=>
  intro acc σ h i;rw [B0];split
  . rename_i F;simp only;split
    . have E:=B6 (ts:=ts) h (Aq ts σ).pos 5;exact f _ _ (Ej (n:=n) (k:=k) E.wf).wf (C.proc E.wf (C.full _ (AP h F Ao) i))
    . exact f _ _ (Ej (n:=n) (k:=k) h).wf (C.proc h i)
  . exact i
def CloL.program (C:CloL ts n I) {k:Nat} {σ:PS} (h:σ.at_<=ts.length) (i:I σ):I (BH ts n k σ).2:=by
 unfold BH;have h1:=IC (n:=n) k [] σ h;have f:=Ek (n:=n) k [] _ h1.wf;exact C.body (As (n:=n) (t:=[109,97,105,110]) f.wf Ao).wf (C.expect f.wf Ao (C.procs k _ _ h1.wf (C.vars k _ _ h i)))
def Clo.finish (C:Clo ts n I) {σ:PS} (h:σ.at_<=ts.length) (i:I σ):I (DE ts n σ):=by
 unfold DE;split
 . exact C.unexp _ h i
 . exact i
end
section
variable {ts:List Tok} {n:Int}
def Ux (k:Nat) : ∀(acc:List Nd) (σ:PS),σ.at_<=ts.length->acc.length<=8->(CK ts n k acc σ).2.err=0 -> ∃l:CP,Seg ts σ (CK ts n k acc σ).2 (OP l)/\(∀v∈l,AS v=true)/\(CK ts n k acc σ).1=acc++l.map JL/\acc.length+l.length<=8:=by
 induction k with
 | zero=>intro acc σ h M f;rw [CK];exact ⟨[],Seg.refl _,A6,A6,by simpa using M⟩
 | succ k X=>
  intro acc σ h M f;rw [CK] at f ⊢;split at f
  . rename_i E;rw [AH E];have Y:=AP h E Ao;have h1:=AB Y;by_cases c:acc.length=8/\AS (Aq ts (Ap σ)).text=true
    . rw [AH c] at f;exfalso;have Z:=B6 (ts:=ts) h1.wf (Aq ts (Ap σ)).pos 5;have F:=AO (n:=n) Z.wf;exact absurd ((F.trans (K5 k _ _ F.wf)).ok f) (Eh Ao)
    . rw [At c] at f ⊢;have F:=AO (n:=n) h1.wf;have e3:=(K5 (n:=n) k (acc++[(DN ts n (Ap σ)).1]) _ F.wf).ok f;obtain ⟨s3,L⟩:=Dg h1.wf e3;have aa:acc.length<8:=by
       rcases kK acc.length 8 with V|V
       . exact V
       . exfalso;refine c ⟨Aa,?_⟩;unfold A2 at L;split at L
         . assumption
         . have N:AS []=true:=L;exact absurd N Ao
      obtain ⟨l,sl,hl,hr,O⟩:=X (acc++[(DN ts n (Ap σ)).1]) (DN ts n (Ap σ)).2 F.wf (by simp only [j9,kf,ki];omega) f;refine ⟨(A2 ts n (Ap σ)).1::l,?_,?_,?_,?_⟩
      . exact ((EO h E Ao).trans s3).trans sl
      . intro v U;rcases kF.1 U with rfl|U
        . exact L
        . exact hl v U
      . rw [hr];simp [DN,JL]
      . simp only [j9,kf,ki] at O ⊢;omega
  . rename_i E;rw [At E];exact ⟨[],Seg.refl _,A6,A6,by simpa using M⟩
def Uy {k:Nat} {kw:lB} {kd:Int} {σ:PS} (F:(kw,kd)∈FG) (hp:(Aq ts σ).text=kw) (h:In ts σ) (f:(Ft ts n k kd σ).2.err=0) : ∃a,Seg ts σ (Ft ts n k kd σ).2 a/\GS .st a [(Ft ts n k kd σ).1]:=by
 have h1:=AB h;have N:=AO (n:=n) h1.wf;have E:=As (n:=n) (t:=[40]) N.wf Ao;have O:=EI h;rw [hp] at O;unfold Ft at f ⊢;simp only at f ⊢;split at f
 . rename_i L;rw [AH L];have M:=(AB (AP E.wf L Ao)).ok f;obtain ⟨U,V⟩:=Dg h1.wf (E.ok M);exact ⟨_,((O.trans U).trans (B4 N.wf Ao M)).trans (EO E.wf L Ao),GS.call0 F V⟩
 . rename_i L;rw [At L];have X:=AO (n:=n) E.wf;have Y:=K5 (n:=n) k [(DN ts n (Az ts n (A2 ts n (Ap σ)).2 [40])).1] _ X.wf;have e5:=(As (n:=n) (t:=[41]) Y.wf Ao).ok f;have e4:=Y.ok e5;have M:=X.ok e4;obtain ⟨U,V⟩:=Dg h1.wf (E.ok M);obtain ⟨s4,hu⟩:=Dg E.wf e4;obtain ⟨l,sl,hl,hr,h8⟩:=Ux (n:=n) k _ _ X.wf A6 e5;refine ⟨_,O.trans (U.trans ((B4 N.wf Ao M).trans (s4.trans (sl.trans (B4 Y.wf Ao f))))),?_⟩;have Z:(CK ts n k [(DN ts n (Az ts n (A2 ts n (Ap σ)).2 [40])).1] (DN ts n (Az ts n (A2 ts n (Ap σ)).2 [40])).2).1=((A2 ts n (Az ts n (A2 ts n (Ap σ)).2 [40])).1::l).map JL:=hr.trans (by simp [DN,JL]);rw [Z];exact GS.call1 F V hu hl (by simp only [kf,ki] at h8;omega)
def FX (f:AZ ts) {k:Nat} {σ:PS} (h:σ.at_<=ts.length) (E:4*mS ts σ+1<=k) (F:(Bz ts n k σ).2.err=0) : ∃a,Seg ts σ (Bz ts n k σ).2 a/\G .pl a (Bz ts n k σ).1:=(N7 f k).2.2.2.2 σ h E F
def Jm (f:AZ ts) {k:Nat} {lv:Int} {σ:PS} (h:σ.at_<=ts.length) (E:4*mS ts σ+4<=k) (F:(Bu ts n k lv σ).2.err=0) : ∃a,Seg ts σ (Bu ts n k lv σ).2 a/\G (.ex lv) a (Bu ts n k lv σ).1:=by
 obtain ⟨a,h1,L,-⟩:=(N7 f k).1 lv σ h E F;exact ⟨a,h1,L⟩
def Re (L:AZ ts) {k:Nat} {σ:PS} (h:σ.at_<=ts.length) (X:4*mS ts σ+1<=k) (E:(Di ts n k σ).2.err=0) : ∃a,Seg ts σ (Di ts n k σ).2 a/\GS .st a [(Di ts n k σ).1]:=by
 have h1:=JG (n:=n) (k:=k) h;have Z:=BN h1;unfold Di at E ⊢;simp only at E ⊢;split at E
 . rename_i F;rw [AH F];have f:=AP h1.wf F Ao;have Y:=Ck f;obtain ⟨a,M,N⟩:=FX L h X f.1;obtain ⟨b,O,U⟩:=FX L (AB f).wf Aa E;exact ⟨_,M.trans ((EO h1.wf F Ao).trans O),GS.swap N U⟩
 . rename_i F;rw [At F];split at E
   . exact absurd E E0
   . rename_i V;rw [At V];have f:=Cc h1.wf (kj (Ns V));have Y:=Ck f;obtain ⟨a,M,N⟩:=FX L h X f.1;obtain ⟨b,O,U⟩:=Jm L (AB f).wf Aa E;exact ⟨_,M.trans ((EI f).trans O),GS.upd N V U⟩
def Uz {σ σ':PS} (h:Le ts σ σ') (k:Lt σ σ') (e:σ'.err=0):mS ts σ'+1<=mS ts σ:=by
 have f:=h.ok e;have h1:=k e;have E:=h.wf;unfold mS;rw [AH e,AH f];omega
def VA {k:Nat} {lv:Int} {σ:PS} (h:σ.at_<=ts.length) (f:4<=k):mS ts (Bu ts n k lv σ).2+1<=mS ts σ\/mS ts (Bu ts n k lv σ).2=0:=by
 have:=(Fm (ts:=ts) (n:=n) k).1 lv σ h;exact Vo this.1 (this.2 f)
def PX {σ:PS} {t:lB} (h:σ.at_<=ts.length) (f:t≠[]):mS ts (Az ts n σ t)+1<=mS ts σ\/mS ts (Az ts n σ t)=0:=Vo (As h f) D5
def N9 (hd:AZ ts) (k:Nat) :
 (∀ σ,σ.at_<=ts.length->4*mS ts σ+6<=k->(Bm ts n k σ).2.err=0 -> ∃a,Seg ts σ (Bm ts n k σ).2 a/\GS .st a [(Bm ts n k σ).1]) /\
 (∀kw kd L E σ,(kw,kd,L,E)∈EJ->(Aq ts σ).text=kw->In ts σ->4*mS ts σ+5<=k->(BM ts n k kd L E σ).2.err=0 -> ∃a,Seg ts σ (BM ts n k kd L E σ).2 a/\GS .st a [(BM ts n k kd L E σ).1]) /\
 (∀ σ,(Aq ts σ).text=[108,111,99,97,108]->In ts σ->4*mS ts σ+5<=k->(Dy ts n k σ).2.err=0 -> ∃a,Seg ts σ (Dy ts n k σ).2 a/\GS .st a [(Dy ts n k σ).1]) /\
 (∀ σ,σ.at_<=ts.length->4*mS ts σ+8<=k->(Co ts n k σ).2.err=0 -> ∃a,Seg ts σ (Co ts n k σ).2 a/\GS .bl a [(Co ts n k σ).1]) /\
 (∀acc σ,σ.at_<=ts.length->4*mS ts σ+7<=k->(Cz ts n k acc σ).2.err=0 -> ∃a l,Seg ts σ (Cz ts n k acc σ).2 (a++[[125]])/\GS .ls a l/\(Cz ts n k acc σ).1=acc++l):=by
 induction k with
 | zero=>refine ⟨fun _ _ h=>?_,fun _ _ _ _ _ _ _ _ h=>?_,fun _ _ _ h=>?_,fun _ _ h=>?_,fun _ _ _ h=>?_⟩<;>omega
 | succ k ih=>
  obtain ⟨iS,iB,iL,iK,iT⟩:=ih;obtain ⟨vS,vB,vL,vK,vT⟩:=Ei (ts:=ts) (n:=n) k;refine ⟨fun σ h hk f=>?_,fun kw kd L E σ F N U hk f=>?_,fun σ N U hk f=>?_,fun σ h hk f=>?_,fun acc σ h hk f=>?_⟩
  . have Z : ∀t:lB,t≠[]->(Aq ts σ).text=t->In ts σ:=fun t ht e=>Cc h (kj (by rw [e];exact ht))
    have ae : ∀kw kd,(kw,kd)∈IF->kw≠[]->(Aq ts σ).text=kw -> ∃a,Seg ts σ (Bm ts n (k+1) σ).2 a/\GS .st a [(Bm ts n (k+1) σ).1]:=by
     intro kw kd F V N;have U:=Z kw V N;have m1:=Ck U;rw [N8 F N] at f ⊢;have X:=EI U;rw [N] at X;unfold Fy at f ⊢;simp only at f ⊢;have h1:=AB U;have O:=JG (n:=n) (k:=k) h1.wf;have M:=As (n:=n) (t:=[44]) O.wf Ao;have Y:=AO (n:=n) M.wf;have e3:=Y.ok f;obtain ⟨a,sa,ga⟩:=FX hd h1.wf Aa (M.ok e3);obtain ⟨s4,hm⟩:=Dg M.wf f;exact ⟨_,X.trans (sa.trans ((B4 O.wf Ao e3).trans s4)),GS.stack F ga hm⟩
    have ab : ∀kw kd,(kw,kd)∈Jl->kw≠[]->(Aq ts σ).text=kw -> ∃a,Seg ts σ (Bm ts n (k+1) σ).2 a/\GS .st a [(Bm ts n (k+1) σ).1]:=by
     intro kw kd F V N;have U:=Z kw V N;have m1:=Ck U;rw [PV F N] at f ⊢;have X:=EI U;rw [N] at X;unfold Gs at f ⊢;simp only at f ⊢;have h1:=AB U;obtain ⟨a,sa,ga⟩:=FX hd h1.wf Aa f;exact ⟨_,X.trans sa,GS.tape F ga⟩
    have af : ∀kw kd,(kw,kd)∈FG->kw≠[]->(Aq ts σ).text=kw -> ∃a,Seg ts σ (Bm ts n (k+1) σ).2 a/\GS .st a [(Bm ts n (k+1) σ).1]:=by
     intro kw kd F V N;rw [LH F N] at f ⊢;exact Uy F N (Z kw V N) f
    have ag : ∀kw kd L E,(kw,kd,L,E)∈EJ->kw≠[]->(Aq ts σ).text=kw -> ∃a,Seg ts σ (Bm ts n (k+1) σ).2 a/\GS .st a [(Bm ts n (k+1) σ).1]:=by
     intro kw kd L E F V N;rw [Mo F N] at f ⊢;exact iB kw kd L E σ F N (Z kw V N) Aa f
    by_cases c:(Aq ts σ).text=[112,117,115,104]
    . exact ae _ 44 Ao Ao c
    by_cases c2:(Aq ts σ).text=[112,111,112]
    . exact ae _ 45 Ao Ao c2
    by_cases c3:(Aq ts σ).text=[114,101,97,100]
    . exact ab _ 46 Ao Ao c3
    by_cases c4:(Aq ts σ).text=[117,110,114,101,97,100]
    . exact ab _ 47 Ao Ao c4
    by_cases c5:(Aq ts σ).text=[119,114,105,116,101]
    . exact ab _ 48 Ao Ao c5
    by_cases c6:(Aq ts σ).text=[117,110,119,114,105,116,101]
    . exact ab _ 49 Ao Ao c6
    by_cases c7:(Aq ts σ).text=[99,97,108,108]
    . exact af _ 50 Ao Ao c7
    by_cases c8:(Aq ts σ).text=[117,110,99,97,108,108]
    . exact af _ 51 Ao Ao c8
    by_cases c9:(Aq ts σ).text=[105,102]
    . exact ag _ 52 [101,108,115,101] [102,105] Ao Ao c9
    by_cases ah:(Aq ts σ).text=[102,114,111,109]
    . exact ag _ 53 [108,111,111,112] [117,110,116,105,108] Ao Ao ah
    by_cases ac:(Aq ts σ).text=[108,111,99,97,108]
    . rw [Kd ac] at f ⊢;exact iL σ ac (Z _ Ao ac) Aa f
    have e:Bm ts n (k+1) σ=Di ts n k σ:=by
     rw [Bm,At c,At c2,At c3,At c4,At c5,At c6,At c7,At c8,At c9,At ah,At ac]
    rw [e] at f ⊢;exact Re hd h Aa f
  . rw [BM] at f ⊢;obtain ⟨ad,aa⟩:=Xh F;have X:=EI U;rw [N] at X;have m0:=Ck U;have h1:=AB U;have O:=DZ (n:=n) (k:=k) (lv:=1) h1.wf;have m2:=VA (n:=n) (k:=k) (lv:=1) h1.wf Aa;have M:=vK _ O.wf;have m3:=BN M;have Y:=As (n:=n) (t:=L) M.wf ad;have m4:=BN Y;have h5:=vK _ Y.wf;have m5:=BN h5;have h6:=As (n:=n) (t:=E) h5.wf aa;have m6:=BN h6;have h7:=DZ (n:=n) (k:=k) (lv:=1) h6.wf;simp only at f ⊢;have e6:=h7.ok f;have e5:=h6.ok e6;have e4:=h5.ok e5;have e3:=Y.ok e4;have e2:=M.ok e3;obtain ⟨a,sa,ga⟩:=Jm hd h1.wf Aa e2;obtain ⟨b,sb,gb⟩:=iK _ O.wf Aa e3;obtain ⟨c,sc,gc⟩:=iK _ Y.wf Aa e5;obtain ⟨d,sd,gd⟩:=Jm hd h6.wf Aa f;exact ⟨_,X.trans (sa.trans (sb.trans ((B4 M.wf ad e4).trans (sc.trans ((B4 h5.wf aa e6).trans sd))))),GS.branch F ga gb gc gd⟩
  . rw [Dy] at f ⊢;have X:=EI U;rw [N] at X;have m0:=Ck U;have h1:=AB U;split at f
    . rename_i hh;rw [AH hh];have ai:=AP h1.wf hh Ao;have m1:=Ck ai;have O:=AB ai;have M:=AO (n:=n) O.wf;have m3:=BN M;have Y:=vK _ M.wf;simp only at f ⊢;obtain ⟨s3,hm⟩:=Dg O.wf (Y.ok f);obtain ⟨b,sb,gb⟩:=iK _ M.wf Aa f;exact ⟨_,X.trans ((EO h1.wf hh Ao).trans (s3.trans sb)),GS.lstack hm gb⟩
    . rename_i hh;rw [At hh];have O:=AO (n:=n) h1.wf;have m2:=BN O;have M:=As (n:=n) (t:=[61]) O.wf Ao;have m3:=BN M;have Y:=DZ (n:=n) (k:=k) (lv:=1) M.wf;have m4:=VA (n:=n) (k:=k) (lv:=1) M.wf Aa;have h5:=vK _ Y.wf;have m5:=BN h5;have h6:=As (n:=n) (t:=[100,101,108,111,99,97,108]) h5.wf Ao;have m6:=BN h6;have h7:=DZ (n:=n) (k:=k) (lv:=1) h6.wf;simp only at f ⊢;have e6:=h7.ok f;have e5:=h6.ok e6;have e4:=h5.ok e5;have e3:=Y.ok e4;have e2:=M.ok e3;obtain ⟨s2,hm⟩:=Dg h1.wf e2;obtain ⟨a,sa,ga⟩:=Jm hd M.wf Aa e4;obtain ⟨b,sb,gb⟩:=iK _ Y.wf Aa e5;obtain ⟨d,sd,gd⟩:=Jm hd h6.wf Aa f;exact ⟨_,X.trans (s2.trans ((B4 O.wf Ao e3).trans (sa.trans (sb.trans ((B4 h5.wf Ao e6).trans sd))))),GS.local_ hm ga gb gd⟩
  . rw [Co] at f ⊢;have h1:=As (n:=n) (t:=[123]) h Ao;have m1:=PX (n:=n) (t:=[123]) h Ao;have O:=vT [] _ h1.wf;simp only at f ⊢;obtain ⟨a,l,sa,ga,hl⟩:=iT [] _ h1.wf Aa f;refine ⟨_,(B4 h Ao (O.ok f)).trans sa,?_⟩;rw [hl];exact GS.bl ga
  . rw [Cz] at f ⊢;split at f
    . exact absurd f Af
    . rename_i h0;rw [At h0];split at f
      . rename_i hh;rw [AH hh];exact ⟨[],[],EO h hh Ao,GS.ls0,A6⟩
      . rename_i hh;rw [At hh];have h1:=vS σ h;have m1:=BN h1;have O:=As (n:=n) (t:=[59]) h1.wf Ao;have m2:=PX (n:=n) (t:=[59]) h1.wf Ao;have M:=vT (acc++[(Bm ts n k σ).1]) _ O.wf;have e2:=M.ok f;have m3:=Uz O D5 e2;obtain ⟨a,sa,ga⟩:=iS σ h Aa (O.ok e2);obtain ⟨b,l,sb,gb,hl⟩:=iT _ _ O.wf Aa f;refine ⟨a++[59]::b,(Bm ts n k σ).1::l,?_,GS.ls1 ga gb,by rw [hl];simp⟩;have:=sa.trans ((B4 h1.wf Ao e2).trans sb);simpa using this
end
def Xi (l:CP) (h : ∀v∈l,AS v=true):(l.map JL).all Nd.isVar=true:=by
 rw [lG];intro x f;obtain ⟨v,E,rfl⟩:=List.mem_map.1 f;simp [JL,Nd.isVar,mu,lZ,named,h v E]
def GS.valid {O:NtS} {a:CP} {l:List Nd} (h:GS O a l):match O with
 | .st=> ∀x,l=[x]->x.isStmt=true
 | .bl=> ∀x,l=[x]->x.isBlock=true
 | .ls=>DU l=true:=by
 induction h with
 | stack h1 f E=>
  rintro x ⟨⟩;have:=f.valid;simp only [IF,kF,kX,kI,or_false] at h1;rcases h1 with ⟨-,rfl⟩|⟨-,rfl⟩<;>(unfold mz;simp only at this;simp [named,E,this])
 | tape h1 f=>
  rintro x ⟨⟩;have:=f.valid;simp only [Jl,kF,kX,kI,or_false] at h1;rcases h1 with ⟨-,rfl⟩|⟨-,rfl⟩|⟨-,rfl⟩|⟨-,rfl⟩<;>(unfold mz;simp only at this;simp [plain,this])
 | call0 h1 f=>
  rintro x ⟨⟩;simp only [FG,kF,kX,kI,or_false] at h1;rcases h1 with ⟨-,rfl⟩|⟨-,rfl⟩<;>(unfold mz;simp [named,f])
 | @call1 kw m u kd l h1 f E M U=>
  rintro x ⟨⟩;have F:=Xi (u::l) (fun v F=>by rcases kF.1 F with rfl|F;exact E;exact M v F);have X:((u::l).map JL).length<=8:=by simp only [List.length_map,kf];omega
  simp only [FG,kF,kX,kI,or_false] at h1;generalize (u::l).map JL=q at *;rcases h1 with ⟨-,rfl⟩|⟨-,rfl⟩<;>(unfold mz;simp [named,f,X,F])
 | branch h1 f E M U i3 i4=>
  rintro x ⟨⟩;have v2:=f.valid;have v5:=U.valid;have v3:=i3 _ rfl;have v4:=i4 _ rfl;simp only [EJ,kF,kX,kI,or_false] at h1;simp only at v2 v5;rcases h1 with ⟨-,rfl,-⟩|⟨-,rfl,-⟩<;>(unfold mz;simp [plain,v2,v3,v4,v5])
 | lstack h1 f i2=>
  rintro x ⟨⟩;have v2:=i2 _ rfl;unfold mz;simp [named,h1,v2]
 | local_ h1 f E M i3=>
  rintro x ⟨⟩;have v2:=f.valid;have v3:=i3 _ rfl;have v4:=M.valid;simp only at v2 v4;unfold mz;simp [named,h1,v2,v3,v4]
 | @upd t a b x y h1 f E=>
  rintro z ⟨⟩;have L:=h1.valid;have v3:=E.valid;simp only at L v3;have Y:CA t=40\/CA t=41\/CA t=42\/CA t=56:=by
   unfold CA at f ⊢;by_cases V:t=[43,61]
   . simp [V]
   by_cases c2:t=[45,61]
   . simp [c2]
   by_cases c3:t=[94,61]
   . simp [c3]
   by_cases c4:t=[58,61]
   . simp [c4]
   simp [V,c2,c3,c4] at f
  unfold mz;rw [AH Y];simp [plain,L,v3]
 | swap h1 f=>
  rintro x ⟨⟩;have L:=h1.valid;have v2:=f.valid;simp only at L v2;unfold mz;simp [plain,L,v2]
 | bl h1 N=>
  rintro x ⟨⟩;simp only at N;unfold Nd.isBlock;simp [plain,N]
 | ls0=>simp [DU]
 | ls1 h1 f N i2=>
  have:=N _ rfl;simp only at i2;simp only [DU,this,i2,Bool.and_self]
section
variable {ts:List Tok} {n:Int}
def K6 {x:Nd} {off:Int} {σ:PS} (h:(D7 x off σ).err=0):σ.err=0/\x.depth<=80/\x.size<=2000:=by
 unfold D7 at h;split at h
 . exact absurd h Af
 . rename_i E;have f:σ.err=0:=by simpa using E
   split at h
   . exact absurd h (Eh Ao)
   . split at h
     . exact absurd h (Eh Ao)
     . exact ⟨f,Aa,Aa⟩
def UA (k:Nat) : ∀(acc:List VD) (σ:PS),σ.at_<=ts.length->(Do ts n k acc σ).2.err=0->acc.length<=32->(Do ts n k acc σ).1.length<=32:=by
 induction k with
 | zero=>intro acc σ h f L;rw [Do];exact L
 | succ k N=>
  intro acc σ h f L;rw [Do] at f ⊢;split at f
  . rename_i M;rw [AH M];simp only at f ⊢;by_cases E:acc.length=32
    . rw [AH E] at f;have O:=B6 (ts:=ts) h (Aq ts σ).pos 5;have F:=CB (n:=n) O.wf;exact absurd ((F.trans (IC k _ _ F.wf)).ok f) (Eh Ao)
    . rw [At E] at f ⊢;have F:=CB (n:=n) h;exact N _ _ F.wf f (by simp only [j9,kf,ki];omega)
  . rename_i M;rw [At M];exact L
def Rf (k:Nat) : ∀(acc:List VD) (σ:PS),σ.at_<=ts.length->(Bi ts n k acc σ).2.err=0->acc.length<=8->(Bi ts n k acc σ).1.length<=8:=by
 induction k with
 | zero=>intro acc σ h f M;rw [Bi];exact M
 | succ k U=>
  intro acc σ h f M;rw [Bi] at f ⊢;split at f
  . rename_i F;rw [AH F];simp only at f ⊢;have O:=AB (AP h F Ao);by_cases N:acc.length=8/\Cb ts (Ap σ)=true
    . rw [AH N] at f;have V:=B6 (ts:=ts) O.wf (Aq ts (Ap σ)).pos 5;have E:=CB (n:=n) V.wf;exact absurd ((E.trans (FD k _ _ E.wf)).ok f) (Eh Ao)
    . rw [At N] at f ⊢;have E:=CB (n:=n) O.wf;by_cases X:acc.length=8
      . have L:Cb ts (Ap σ)=false:=by
         cases hh:Cb ts (Ap σ)
         . rfl
         . exact absurd ⟨X,hh⟩ N
        have Y:(Bp ts n (Ap σ)).2.err≠0:=by
         simp only [Cb,Bool.or_eq_false_iff] at L;unfold Bp;rw [At (by simp [L.1.1]),At (by simp [L.2]),At (by simp [L.1.2])];exact E0
        exact absurd ((FD k _ _ E.wf).ok f) Y
      . exact U _ _ E.wf f (by simp only [j9,kf,ki];omega)
  . rename_i F;rw [At F];exact M
def Mp {k:Nat} {σ:PS} (h:σ.at_<=ts.length) (f:(Dk ts n k σ).2.err=0):(Dk ts n k σ).1.params.length<=8/\(Dk ts n k σ).1.body.size<=2000:=by
 rw [GF] at f ⊢;simp only at f ⊢;have L:=As (n:=n) (t:=[112,114,111,99]) h Ao;have M:=L.trans (AO (n:=n) L.wf);have N:=M.trans (As (n:=n) (t:=[40]) M.wf Ao);generalize Az ts n (A2 ts n (Az ts n σ [112,114,111,99])).2 [40]=V at *;have X:=GE (n:=n) (k:=k) N.wf;unfold EZ at f ⊢;simp only at f ⊢;have O:=K6 f;refine ⟨?_,O.2.2⟩;have E:=((Ei (ts:=ts) (n:=n) k).2.2.2.1 _ X.wf).ok O.1;unfold G1 at E ⊢;split at E
 . rename_i F;rw [AH F];exact kC _
 . rename_i F;rw [At F];simp only at E ⊢;have U:=CB (n:=n) N.wf;have Y:=FD (n:=n) k [(Bp ts n V).1] _ U.wf;exact Rf k _ _ U.wf ((As (n:=n) (t:=[41]) Y.wf Ao).ok E) A6
def S7 (k:Nat) : ∀(acc:List PD) (σ:PS),σ.at_<=ts.length->(B0 ts n k acc σ).2.err=0->acc.length<=64->(∀p∈acc,p.params.length<=8/\p.body.size<=2000) ->
 (B0 ts n k acc σ).1.length<=64 /\ ∀p∈(B0 ts n k acc σ).1,p.params.length<=8/\p.body.size<=2000:=by
 induction k with
 | zero=>intro acc σ h f N M;rw [B0];exact ⟨N,M⟩
 | succ k U=>
  intro acc σ h f N M;rw [B0] at f ⊢;split at f
  . rename_i O;rw [AH O];simp only at f ⊢;by_cases E:acc.length=64
    . rw [AH E] at f;have V:=B6 (ts:=ts) h (Aq ts σ).pos 5;have F:=Ej (n:=n) (k:=k) V.wf;exact absurd ((F.trans (Ek k _ _ F.wf)).ok f) (Eh Ao)
    . rw [At E] at f ⊢;have F:=Ej (n:=n) (k:=k) h;refine U _ _ F.wf f (by simp only [j9,kf,ki];omega) (fun p L=>?_);rcases List.mem_append.1 L with L|L
      . exact M p L
      . have:p=(Dk ts n k σ).1:=by simpa using L
        rw [this];exact Mp h ((Ek k _ _ F.wf).ok f)
  . rename_i O;rw [At O];exact ⟨N,M⟩
def PY {σ:PS} (h:(DE ts n σ).err=0):σ.err=0 /\ ¬ σ.at_<ts.length:=by
 unfold DE at h;split at h
 . exact absurd h E0
 . exact ⟨h,Af⟩
def JS {k:Nat} {σ:PS} (h:σ.at_<=ts.length) (f:(BH ts n k σ).2.err=0) :
 (BH ts n k σ).1.vars.length<=32/\(BH ts n k σ).1.procs.length<=64/\(∀p∈(BH ts n k σ).1.procs,p.params.length<=8/\p.body.size<=2000)/\(BH ts n k σ).1.main.size<=2000:=by
 unfold BH at f ⊢;simp only at f ⊢;have E:=IC (n:=n) k [] σ h;have F:=Ek (n:=n) k [] _ E.wf;have L:=As (n:=n) (t:=[109,97,105,110]) F.wf Ao;unfold EZ at f ⊢;simp only at f ⊢;have M:=K6 f;have U:=((Ei (ts:=ts) (n:=n) k).2.2.2.1 _ L.wf).ok M.1;have N:=L.ok U;have h1:=F.ok N;have O:=S7 k _ _ E.wf N A6 A6;exact ⟨UA k _ _ h h1 A6,O.1,O.2,M.2.2⟩
end
mutual
def Zq : ∀(t:Nd) (d m:Int),t.depth<=d->(t.size:Int)<=m->t.lim d m=(true,m-t.size)
 | .mk _ _ _ l,d,m,hd,hm=>by
  simp only [Nd.depth] at hd;simp only [lR] at hm;have h0:0<=AT l:=Mq l;unfold Nd.lim;rw [At Aa,PZ l (d-1) (m-1) Aa Aa];simp only [lR];congr 1;omega
def PZ : ∀(l:List Nd) (d m:Int),AT l<=d->(Aj l:Int)<=m->Ct l d m=(true,m-Aj l)
 | [],d,m,_,_=>by simp [Ct,Aj]
 | t::r,d,m,hd,hm=>by
  simp only [AT] at hd;simp only [Aj] at hm;have h1:=Zq t d m Aa Aa;unfold Ct;rw [h1];simp only [if_true];rw [PZ r d _ Aa Aa];simp only [Aj];congr 1;omega
def Mq : ∀l:List Nd,0<=AT l
 | []=>by simp [AT]
 | t::r=>by have:=Mq r;simp only [AT];omega
end
def cI {t:Nd} (f:t.depth<=80) (E:t.size<=2000) (h:t.isBlock=true):D9 t=true:=by
 unfold D9;rw [Zq t 80 2000 f Aa,h];rfl
section
variable {ts:List Tok} {n:Int}
def Rg (U:AZ ts) {σ:PS} (h:σ.at_<=ts.length) (E:(Bp ts n σ).2.err=0):(Bp ts n σ).1.ok=true:=by
 unfold Bp at E ⊢;split at E
 . rename_i f;rw [AH f];have F:=AP h f Ao;obtain ⟨-,L⟩:=Dg (AB F).wf E;simp [VD.ok,L]
 . rename_i f;rw [At f];split at E
   . rename_i f;rw [AH f];have F:=AP h f Ao;obtain ⟨-,L⟩:=Dg (AB F).wf E;simp [VD.ok,L]
   . rename_i f;rw [At f];split at E
     . rename_i f;rw [AH f];simp only at E ⊢;have F:=AP h f Ao;have h1:=AB F;have V:=AO (n:=n) h1.wf;have M:=As (n:=n) (t:=[91]) V.wf Ao;have N:=Gg (n:=n) (a:=1) (b:=16) M.wf;have O:=(As (n:=n) (t:=[93]) N.wf Ao).ok E;obtain ⟨-,L⟩:=Dg h1.wf (M.ok (N.ok O));obtain ⟨t,-,-,e,-,X,Y⟩:=N6 U M.wf O;simp only [VD.ok,L,e];simp [X,Y]
     . exact absurd E E0
def Oa {l:List VD} {v:VD} (h:Dd l=true) (f:v.ok=true):Dd (l++[v])=true:=by
 unfold Dd at *;simp [h,f]
def VB (N:AZ ts) (k:Nat) : ∀(acc:List VD) (σ:PS),σ.at_<=ts.length->(Do ts n k acc σ).2.err=0->Dd acc=true->Dd (Do ts n k acc σ).1=true:=by
 induction k with
 | zero=>intro acc σ h f E;rw [Do];exact E
 | succ k O=>
  intro acc σ h f E;rw [Do] at f ⊢;split at f
  . rename_i F;rw [AH F];simp only at f ⊢;generalize U:(if acc.length=32 then BE σ (Aq ts σ).pos 5 else σ)=V at *;have L:Le ts σ V:=by
     rw [<-U];split
     . exact B6 h _ _
     . exact mp h
    have M:=CB (n:=n) L.wf;exact O _ _ M.wf f (Oa E (Rg N L.wf ((IC k _ _ M.wf).ok f)))
  . rename_i F;rw [At F];exact E
def Xj (N:AZ ts) (k:Nat) : ∀(acc:List VD) (σ:PS),σ.at_<=ts.length->(Bi ts n k acc σ).2.err=0->Dd acc=true->Dd (Bi ts n k acc σ).1=true:=by
 induction k with
 | zero=>intro acc σ h f E;rw [Bi];exact E
 | succ k O=>
  intro acc σ h f E;rw [Bi] at f ⊢;split at f
  . rename_i F;rw [AH F];simp only at f ⊢;have h1:=AB (AP h F Ao);generalize U:(if acc.length=8/\Cb ts (Ap σ)=true then BE (Ap σ) (Aq ts (Ap σ)).pos 5 else Ap σ)=σ1 at *;have L:Le ts (Ap σ) σ1:=by
     rw [<-U];split
     . exact B6 h1.wf _ _
     . exact mp h1.wf
    have M:=CB (n:=n) L.wf;exact O _ _ M.wf f (Oa E (Rg N L.wf ((FD k _ _ M.wf).ok f)))
  . rename_i F;rw [At F];exact E
def Ob (E:AZ ts) {k:Nat} {σ:PS} (h:σ.at_<=ts.length) (F:4*mS ts σ+8<=k) (f:(EZ ts n k σ).2.err=0):D9 (EZ ts n k σ).1=true:=by
 unfold EZ at f ⊢;simp only at f ⊢;obtain ⟨L,M,N⟩:=K6 f;obtain ⟨a,-,O⟩:=(N9 E k).2.2.2.1 σ h F L;exact cI M N (O.valid _ rfl)
def VC (N:AZ ts) {k:Nat} {σ:PS} (h:σ.at_<=ts.length) (hk:4*mS ts σ+8<=k) (E:(Dk ts n k σ).2.err=0):(Dk ts n k σ).1.ok=true:=by
 have f:=(Mp h E).1;rw [GF] at E f ⊢;simp only at E f ⊢;have O:=As (n:=n) (t:=[112,114,111,99]) h Ao;have V:=AO (n:=n) O.wf;have F:=As (n:=n) (t:=[40]) V.wf Ao;have M:=GE (n:=n) (k:=k) F.wf;have lb:=Hw (n:=n) (k:=k) M.wf;have m:=BN (((O.trans V).trans F).trans M);have hb:=Ob N M.wf Aa E;have L:=lb.ok E;have e3:=M.ok L;obtain ⟨-,hm⟩:=Dg O.wf (F.ok e3);have hp:Dd (G1 ts n k (Az ts n (A2 ts n (Az ts n σ [112,114,111,99])).2 [40])).1=true:=by
  unfold G1 at L ⊢;split at L
  . rename_i U;rw [AH U];rfl
  . rename_i U;rw [At U];simp only at L ⊢;have X:=CB (n:=n) F.wf;have Y:=FD (n:=n) k [(Bp ts n (Az ts n (A2 ts n (Az ts n σ [112,114,111,99])).2 [40])).1] _ X.wf;have Z:=(As (n:=n) (t:=[41]) Y.wf Ao).ok L;refine Xj N k _ _ X.wf Z ?_;unfold Dd;simp [Rg N F.wf (Y.ok Z)]
 simp only [PD.ok,hm,hp,hb,Bool.and_true,Bool.true_and];exact decide_eq_true f
def Zr (O:AZ ts) (k:Nat) : ∀(acc:List PD) (σ:PS),σ.at_<=ts.length->(σ.err=0->4*mS ts σ+9<=k)->(B0 ts n k acc σ).2.err=0->acc.all PD.ok=true->(B0 ts n k acc σ).1.all PD.ok=true:=by
 induction k with
 | zero=>intro acc σ h M f F;rw [B0];exact F
 | succ k U=>
  intro acc σ h M f F;rw [B0] at f ⊢;split at f
  . rename_i L;rw [AH L];simp only at f ⊢;have V:=(AP h L Ao).1;have X:=M V;by_cases c:acc.length=64
    . rw [AH c] at f;exfalso;have Y:=B6 (ts:=ts) h (Aq ts σ).pos 5;have E:=Ej (n:=n) (k:=k) Y.wf;exact absurd ((E.trans (Ek k _ _ E.wf)).ok f) (Eh Ao)
    . rw [At c] at f ⊢;have E:=Ej (n:=n) (k:=k) h;have N:=(Ek k (acc++[(Dk ts n k σ).1]) _ E.wf).ok f;have Z:=Uz E (KR h) N;refine U _ _ E.wf (fun _=>by omega) f ?_;rw [List.all_append,F];simp [VC O h Aa N]
  . rename_i L;rw [At L];exact F
def UB (L:AZ ts) {k:Nat} {σ:PS} (h:σ.at_<=ts.length) (hk:4*mS ts σ+9<=k) (f:(BH ts n k σ).2.err=0):(BH ts n k σ).1.ok=true:=by
 obtain ⟨M,N,-,-⟩:=JS h f;unfold BH at f M N ⊢;simp only at f M N ⊢;have E:=IC (n:=n) k [] σ h;have O:=Ek (n:=n) k [] _ E.wf;have F:=As (n:=n) (t:=[109,97,105,110]) O.wf Ao;have V:=Hw (n:=n) (k:=k) F.wf;have X:=V.ok f;have U:=F.ok X;have Y:=O.ok U;have m1:=BN E;have m3:=BN ((E.trans O).trans F);have Z:=VB L k [] σ h Y rfl;have hp:=Zr L k [] _ E.wf (fun _=>by omega) U rfl;have hb:=Ob L F.wf Aa f;simp only [PG.ok,Z,hp,hb,Bool.and_true];simp [M,N]
def VE (n:Int) (σ:PS):Prop:=σ.err≠0->0<=σ.off/\σ.off<=n
def Ia {σ:PS} {off e:Int} (f:0<=off) (h1:off<=n) (i:VE n σ):VE n (BE σ off e):=by
 unfold BE;split
 . exact fun _=>⟨f,h1⟩
 . exact i
def cJ (hn:0<=n) (hp : ∀t∈ts,0<=t.pos/\t.pos<=n):CloL ts n (VE n) where
 next:=fun σ _ i=>i
 unexp:=fun σ h i=>by
  unfold Dl;split
  . rename_i hl;rw [List.getD_eq_getElem?_getD,kg hl];exact Ia (hp _ (kq hl)).1 (hp _ (kq hl)).2 i
  . exact Ia hn (Int.le_refl _) i
 full:=fun σ h i=>Ia (hp _ (GK h.2 h.1)).1 (hp _ (GK h.2 h.1)).2 i
 range:=fun σ h i=>Ia (hp _ (GK h.2 h.1)).1 (hp _ (GK h.2 h.1)).2 i
 lim:=fun σ x τ h i j=>by
  have hq:0<=(Aq ts σ).pos/\(Aq ts σ).pos<=n:=by
   by_cases c:σ.err≠0\/σ.at_=ts.length
   . have:Aq ts σ=Tok.zero:=by unfold Aq;rw [AH c]
     rw [this];exact ⟨Ao,hn⟩
   . exact hp _ (GK Aa Aa)
  unfold D7;split
  . exact j
  . split
    . exact Ia hq.1 hq.2 j
    . split
      . exact Ia hq.1 hq.2 j
      . exact j
end
def P0 (s:lB) : ∀(k p:Nat) (acc:List Tok) (q:Nat),(CX k s p acc).2=some q->q<=s.length
 | 0,p,acc,q,h=>by rw [CX] at h;cases h
 | k+1,p,acc,q,h=>by
  rw [CX] at h;split at h
  . rename_i f;split at h
    . cases h;omega
    . exact P0 s k _ _ q h
  . cases h
def Xk (s:lB):VE s.length (Cp s).2:=by
 intro _;show 0<=(G7 s).2.1/\(G7 s).2.1<=(s.length:Int);unfold G7;split
 . show (0:Int)<=0/\(0:Int)<=(s.length:Int);omega
 . split
   . show (0:Int)<=0/\(0:Int)<=(s.length:Int);omega
   . rename_i l p f;have:=P0 s _ _ _ p (by rw [f]);show (0:Int)<=(p:Int)/\(p:Int)<=(s.length:Int);omega
def Xl (s:lB) : ∀t∈(Cp s).1,0<=t.pos/\t.pos<=s.length:=fun t f=>(KT s t f).pos
def MF (s:lB):((A8 s).2.2=0->(A8 s).1.ok=true/\(A8 s).2.1=0)/\((A8 s).2.2≠0->(A8 s).1=⟨[],[],BR⟩/\0<=(A8 s).2.1/\(A8 s).2.1<=s.length):=by
 have F:=Hx s;have L:mS (Cp s).1 (Cp s).2<=(Cp s).1.length:=by unfold mS;split<;>omega
 have f:(Cp s).2.at_<=(Cp s).1.length:=kC _;unfold A8;simp only;split
 . rename_i h;refine ⟨fun e=>absurd e h,fun _=>⟨rfl,?_⟩⟩;have C:=cJ (ts:=(Cp s).1) (n:=s.length) Aa (Xl s);have E:=Sj (n:=s.length) (k:=Gt s) f;exact C.toClo.finish E.wf (C.program f (Xk s)) h
 . rename_i h;refine ⟨fun _=>⟨?_,rfl⟩,fun e=>absurd rfl e⟩;exact UB (FE s) f (by unfold Gt;omega) (PY (by simpa using h)).1
def EQ {m:lB} (h:AS m=true):m.length<=16:=by
 simp only [AS,ke,decide_eq_true_eq] at h;exact h.1.1.1.2
def G.wf {f:Nt} {a:CP} {x:Nd} (h:G f a x):match f with
 | .cl _ y=>y.wf->x.wf
 | _=>x.wf:=by
 induction h with
 | ex _ _ E i2=>exact i2 E
 | cl0=>exact fun h=>h
 | @cl1 lv op t a b x y z h1 F N O U i3 i5=>
  intro L;obtain ⟨-,V,M,-⟩:=Gz h1;refine i5 ?_;exact ⟨Aa,Aa,Aa,Aa,A6,A6,L,i3,trivial⟩
 | neg _ i=>exact ⟨Aa,Aa,Aa,Aa,A6,A6,i,trivial⟩
 | not _ i=>exact ⟨Aa,Aa,Aa,Aa,A6,A6,i,trivial⟩
 | num h1 F=>exact ⟨Aa,Aa,Aa,Aa,A6,A6,trivial⟩
 | top h=>have:=EQ h;exact ⟨Aa,Aa,Aa,Aa,Aa,A6,trivial⟩
 | size h=>have:=EQ h;exact ⟨Aa,Aa,Aa,Aa,Aa,A6,trivial⟩
 | par _ i=>exact i
 | place _ i=>exact i
 | var h=>have:=EQ h;exact ⟨Aa,Aa,Aa,Aa,Aa,A6,trivial⟩
 | item h _ i=>have:=EQ h;exact ⟨Aa,Aa,Aa,Aa,Aa,A6,i,trivial⟩
def UC (l:CP) (h : ∀v∈l,AS v=true):Bc (l.map JL):=by
 induction l with
 | nil=>trivial
 | cons v r f=>
  have:=EQ (h v A6);exact ⟨⟨Aa,Aa,Aa,Aa,Aa,A6,trivial⟩,f (fun u E=>h u (by simp [E]))⟩
def P1 (t:lB):0<=CA t/\CA t<=255:=by
 unfold CA;split
 . decide
 split
 . decide
 split
 . decide
 split
 . decide
 . decide
def GS.wf {U:NtS} {a:CP} {l:List Nd} (h:GS U a l) (F:a.length<=9223372036854775807):match U with
 | .ls=>Bc l/\l.length<=a.length
 | _=>Bc l:=by
 induction h with
 | stack h1 f E=>
  have:=EQ E;have v:=f.wf;simp only [IF,kF,kX,kI,or_false] at h1;rcases h1 with ⟨-,rfl⟩|⟨-,rfl⟩<;>exact ⟨⟨Aa,Aa,Aa,Aa,Aa,A6,v,trivial⟩,trivial⟩
 | tape h1 f=>
  have v:=f.wf;simp only [Jl,kF,kX,kI,or_false] at h1;rcases h1 with ⟨-,rfl⟩|⟨-,rfl⟩|⟨-,rfl⟩|⟨-,rfl⟩<;>exact ⟨⟨Aa,Aa,Aa,Aa,A6,A6,v,trivial⟩,trivial⟩
 | call0 h1 f=>
  have:=EQ f;simp only [FG,kF,kX,kI,or_false] at h1;rcases h1 with ⟨-,rfl⟩|⟨-,rfl⟩<;>exact ⟨⟨Aa,Aa,Aa,Aa,Aa,A6,trivial⟩,trivial⟩
 | @call1 kw m u kd l h1 f E L V=>
  have:=EQ f;have v:=UC (u::l) (fun v M=>by rcases kF.1 M with rfl|M;exact E;exact L v M);have N:((u::l).map JL).length<=9223372036854775807:=by simp only [List.length_map,kf];omega
  simp only [FG,kF,kX,kI,or_false] at h1;rcases h1 with ⟨-,rfl⟩|⟨-,rfl⟩<;>exact ⟨⟨Aa,Aa,Aa,Aa,Aa,N,v⟩,trivial⟩
 | branch h1 f E L V i3 i4=>
  simp only [kf,j9] at F;have v2:=f.wf;have v5:=V.wf;have v3:=(i3 Aa).1;have v4:=(i4 Aa).1;simp only [EJ,kF,kX,kI,or_false] at h1;rcases h1 with ⟨-,rfl,-⟩|⟨-,rfl,-⟩<;>exact ⟨⟨Aa,Aa,Aa,Aa,A6,A6,v2,v3,v4,v5,trivial⟩,trivial⟩
 | lstack h1 f i2=>
  simp only [kf] at F;have:=EQ h1;exact ⟨⟨Aa,Aa,Aa,Aa,Aa,A6,(i2 Aa).1,trivial⟩,trivial⟩
 | local_ h1 f E L i3=>
  simp only [kf,j9] at F;have:=EQ h1;exact ⟨⟨Aa,Aa,Aa,Aa,Aa,A6,f.wf,(i3 Aa).1,L.wf,trivial⟩,trivial⟩
 | @upd t a b x y h1 f E=>exact ⟨⟨(P1 t).1,(P1 t).2,Aa,Aa,A6,A6,h1.wf,E.wf,trivial⟩,trivial⟩
 | swap h1 f=>exact ⟨⟨Aa,Aa,Aa,Aa,A6,A6,h1.wf,f.wf,trivial⟩,trivial⟩
 | bl h1 O=>
  simp only [kf,j9,ki] at F;obtain ⟨v,N⟩:=O Aa;exact ⟨⟨Aa,Aa,Aa,Aa,A6,Aa,v⟩,trivial⟩
 | ls0=>exact ⟨trivial,kv _⟩
 | ls1 h1 f O i2=>
  simp only [kf,j9] at F;obtain ⟨v,N⟩:=i2 Aa;refine ⟨⟨(O Aa).1,v⟩,?_⟩;simp only [kf,j9];omega
def VD.wf_ok {v:VD} (h:v.ok=true):v.wf:=by
 simp only [VD.ok,ke] at h;obtain ⟨h1,f⟩:=h;have:=EQ h1;split at f
 . rename_i E;have:v.len=0:=by simpa using f
   exact ⟨Aa,Aa,Aa,Aa,Aa⟩
 . split at f
   . simp only [ke,decide_eq_true_eq] at f;exact ⟨Aa,Aa,Aa,Aa,Aa⟩
   . cases f
def P2 {l:List VD} (h:Dd l=true) : ∀v∈l,v.wf:=fun v f=>VD.wf_ok (lG.1 h v f)
section
variable {ts:List Tok} {n:Int}
def cK {σ σ':PS} {a:CP} (h:Seg ts σ σ' a):a.length<=ts.length:=by
 have h1:=JF (ts:=ts) σ;have f:rem ts σ=a++rem ts σ':=h;rw [f,j9] at h1;omega
def VF (E:AZ ts) (O:ts.length<=1000000) {k:Nat} {σ:PS} (h:σ.at_<=ts.length) (F:4*mS ts σ+8<=k) (f:(EZ ts n k σ).2.err=0):(EZ ts n k σ).1.wf:=by
 unfold EZ at f ⊢;simp only at f ⊢;obtain ⟨L,-,-⟩:=K6 f;obtain ⟨a,M,N⟩:=(N9 E k).2.2.2.1 σ h F L;have:=cK M;exact (N.wf Aa).1
def cL (F:AZ ts) (U:ts.length<=1000000) {k:Nat} {σ:PS} (h:σ.at_<=ts.length) (V:4*mS ts σ+8<=k) (E:(Dk ts n k σ).2.err=0):(Dk ts n k σ).1.wf:=by
 have f:=VC F h V E;simp only [PD.ok,ke,decide_eq_true_eq] at f;have:=EQ f.1.1.1;refine ⟨Aa,Aa,P2 f.1.2,?_⟩;rw [GF] at E ⊢;simp only at E ⊢;have L:=As (n:=n) (t:=[112,114,111,99]) h Ao;have M:=AO (n:=n) L.wf;have N:=As (n:=n) (t:=[40]) M.wf Ao;have O:=GE (n:=n) (k:=k) N.wf;have m:=BN (((L.trans M).trans N).trans O);exact VF F U O.wf Aa E
def Zs (U:AZ ts) (V:ts.length<=1000000) (k:Nat) : ∀(acc:List PD) (σ:PS),σ.at_<=ts.length->(σ.err=0->4*mS ts σ+9<=k)->(B0 ts n k acc σ).2.err=0->(∀p∈acc,p.wf) -> ∀p∈(B0 ts n k acc σ).1,p.wf:=by
 induction k with
 | zero=>intro acc σ h N f L;rw [B0];exact L
 | succ k X=>
  intro acc σ h N f L;rw [B0] at f ⊢;split at f
  . rename_i M;rw [AH M];simp only at f ⊢;have Y:=(AP h M Ao).1;have Z:=N Y;by_cases c:acc.length=64
    . rw [AH c] at f;exfalso;have l0:=B6 (ts:=ts) h (Aq ts σ).pos 5;have E:=Ej (n:=n) (k:=k) l0.wf;exact absurd ((E.trans (Ek k _ _ E.wf)).ok f) (Eh Ao)
    . rw [At c] at f ⊢;have E:=Ej (n:=n) (k:=k) h;have O:=(Ek k (acc++[(Dk ts n k σ).1]) _ E.wf).ok f;have m1:=Uz E (KR h) O;refine X _ _ E.wf (fun _=>by omega) f (fun p F=>?_);rcases List.mem_append.1 F with F|F
      . exact L p F
      . have:p=(Dk ts n k σ).1:=by simpa using F
        rw [this];exact cL U V h Aa O
  . rename_i M;rw [At M];exact L
def UD (L:AZ ts) (N:ts.length<=1000000) {k:Nat} {σ:PS} (h:σ.at_<=ts.length) (hk:4*mS ts σ+9<=k) (f:(BH ts n k σ).2.err=0):(BH ts n k σ).1.wf:=by
 obtain ⟨O,U,-,-⟩:=JS h f;unfold BH at f O U ⊢;simp only at f O U ⊢;have E:=IC (n:=n) k [] σ h;have M:=Ek (n:=n) k [] _ E.wf;have F:=As (n:=n) (t:=[109,97,105,110]) M.wf Ao;have X:=Hw (n:=n) (k:=k) F.wf;have Y:=X.ok f;have V:=F.ok Y;have Z:=M.ok V;have m1:=BN E;have m3:=BN ((E.trans M).trans F);exact ⟨by simp only;omega,by simp only;omega,P2 (VB L k [] σ h Z rfl),Zs L N k [] _ E.wf (fun _=>by omega) V A6,VF L N F.wf Aa f⟩
end
def IR (s:lB) (F:s.length<=1000000) (f:(A8 s).2.2=0):(A8 s).1.wf:=by
 have L:=Hx s;have M:mS (Cp s).1 (Cp s).2<=(Cp s).1.length:=by unfold mS;split<;>omega
 have E:(Cp s).2.at_<=(Cp s).1.length:=kC _;unfold A8 at f ⊢;simp only at f ⊢;split at f
 . rename_i h;exact absurd f h
 . rename_i h;rw [At h];exact UD (FE s) Aa E (by unfold Gt;omega) (PY (by simpa using h)).1
def Zt (ws:List lB) (g:PG):EX:=⟨ws.getD 1 [],DD ws 0,DD ws 1,⟨DD ws 2,DD ws 3,DD ws 4⟩,g⟩
noncomputable def Fu (s:lB):Except Int (EX×lB):=
 open Classical in
 if (EH s).2.2=false then .error 4
 else if ¬PT (B8 (EH s).1) then .error 3
 else if (DL (EH s).2.1 (DD (B8 (EH s).1) 5).toNat).2.2=false then .error 4
 else if ¬(A8 (DL (EH s).2.1 (DD (B8 (EH s).1) 5).toNat).1).2.2=0 then .error 3
 else if ¬(A8 (DL (EH s).2.1 (DD (B8 (EH s).1) 5).toNat).1).1.text=(DL (EH s).2.1 (DD (B8 (EH s).1) 5).toNat).1 then .error 3
 else if ¬(Zt (B8 (EH s).1) (A8 (DL (EH s).2.1 (DD (B8 (EH s).1) 5).toNat).1).1).valid then .error 3
 else .ok (Zt (B8 (EH s).1) (A8 (DL (EH s).2.1 (DD (B8 (EH s).1) 5).toNat).1).1,(DL (EH s).2.1 (DD (B8 (EH s).1) 5).toNat).2.1)
def ji (q:Except Int (EX×lB)) (w:wD):Ending->wD->Prop:=fun e w'=>match q with
 | .ok (x,rest)=> ∃va vc pa pc ma mc,e = .returned (.tuple #[.agg (x.cells va vc pa pc ma mc).toArray,str rest,.int .i64 0])/\x.sits (w.heap.size <= ·) w' va pa ma vc/\Ext w w'
 | .error k=>e = .returned (.tuple #[.agg zeroEX.cells0.toArray,str [],.int .i64 k])/\Ext w w'
def Zu (s:lB):(EH s).1.length<=s.length/\(EH s).2.1.length<=s.length:=by
 unfold EH Lib.cut;split
 . simp only [kU,List.length_drop];omega
 . simp
def VG (s:lB) (n:Nat):(DL s n).1.length<=s.length/\(DL s n).2.1.length<=s.length:=by
 unfold DL;split
 . simp
 . simp only [kU,List.length_drop];omega
def gM {g:PG} (h:g.ok=true):g.vars.length<=32:=by
 unfold PG.ok at h;simp only [ke,decide_eq_true_eq] at h;exact h.1.1.1.1
set_option maxHeartbeats 8000000 in
def Zv (s:lB) (hs:s.length<=100000) (w:wD) (F:Errs2 w) (E:TabsF w) :
 Calls prog 37 #[str s] w (ji (Fu s) w):=by
 have X:=lN w;have b3:=E.g;have HC:=kh (fun w1 h=>jg s Aa w1 h);have am:=Zu s;obtain ⟨q,U⟩ : ∃q,q=Fu s:=⟨_,rfl⟩
 rw [<-U];unfold Fu at U;generalize EH s=ct at *;obtain ⟨c1,c2,c3⟩:=ct;simp only at am U HC;refine Ae func37 ntmps37 rfl rfl ?_;refine cS (eA [_,_,_,_,_,_,_,_,_,_,_,_] ?_);intro b1 w2 O x6 p7 z8;revert F E X;refine eE x6 ?_;intro F E X;refine eK ?_;refine cC rfl (HC.out _ Af) ?_;rintro _ b4 ⟨⟨⟩,x9⟩;revert O F E X;refine eY x9 ?_;intro b5 O F E X;refine C1 Mv (C1 Px (C1 Px (C1 Px (C1 Pa (C1 Pa (C1 Pa (cT (Al ?_))))))));cases c3 with
 | false=>
  rw [AH rfl] at U;subst U;refine eK ?_;refine C1 (xB [_,_,_,_,_,_,_,_,_,_,_,_]) (eS [_,_,_,_,_,_,_,_,_,_,_,_] O ?_);intro b6 an ao b7;revert F E X;refine eF ao ?_;intro F E X;refine eK ?_;refine Dc rfl Ab rfl rfl rfl an rfl rfl rfl ?_;exact ⟨rfl,X⟩
 | true=>
 rw [At Ao] at U;have HH:=kh (fun w1 h1 h2=>Rd c1 Aa w1 h1 h2);have ab:=Uv ((B8 c1).getD (3+2*5) []);change 0<=DD (B8 c1) 5/\DD (B8 c1) 5<=1000000000 at ab;have aa : ∀i,((B8 c1).getD i []).length<=c1.length:=fun i=>Vy i
 generalize B8 c1=Y at *;rcases (Decidable.em (PT Y)).symm with hk|hk
 . rw [AH hk] at U;rw [show S4 Y = .tuple #[.agg #[str [],.int .i64 0,.int .i64 0,.int .i64 0,.int .i64 0,.int .i64 0,.slice none 0 0,.slice none 0 0,.int .u8 0,.int .i64 0,str [],.slice none 0 0],.int .i64 0,.bool false] from At hk] at HH;subst U;clear aa ab;refine eK ?_;refine cC rfl (HH.out _ Af Af) ?_;rintro _ b8 ⟨⟨⟩,ap⟩;revert O F E X;refine eY ap ?_;intro b9 O F E X;refine eK ?_;refine xA [_,_,_,_,_,_,_,_,_,_,_,_] ?_;intro ca cb aq;refine eI [_,_,_,_,_,_,_,_,_,_,_,_] aq ?_;intro cc ag ar bd be;revert O F E X;refine eE ar ?_;intro O F E X;refine eK ?_;refine C1 (xB [_,_,_,_,_,_,_,_,_,_,_,_]) (eS [_,_,_,_,_,_,_,_,_,_,_,_] O ?_);intro bf ah ai bg;revert ag F E X;refine eF ai ?_;intro ag F E X;refine eK ?_;refine Dc rfl Ab rfl rfl rfl ah rfl rfl rfl ?_;exact ⟨rfl,X⟩
 rw [At (fun h=>h hk)] at U;have cd:=aa 1;clear aa;have hT:S4 Y = .tuple #[.agg #[str (Y.getD 1 []),.int .i64 (DD Y 0),.int .i64 (DD Y 1),.int .i64 (DD Y 2),.int .i64 (DD Y 3),.int .i64 (DD Y 4),.slice none 0 0,.slice none 0 0,.int .u8 0,.int .i64 0,str [],.slice none 0 0],.int .i64 (DD Y 5),.bool true]:=AH hk;rw [hT] at HH;obtain ⟨n,hn⟩:=Int.eq_ofNat_of_zero_le ab.1;rw [hn] at U ab HH;rw [Int.toNat_natCast] at U;have HK:=kh (fun w1=>gA c2 Aa n Aa w1);have au:=VG c2 n;have hb:0<=DD Y 0/\0<=DD Y 1:=⟨(Uv _).1,(Uv _).1⟩
 unfold Zt at U;clear hT hk hn;generalize Y.getD 1 []=nm at *;generalize DD Y 0=po at *;generalize DD Y 1=fu at *;generalize DD Y 2=bv at *;generalize DD Y 3=bl at *;generalize DD Y 4=bi at *;generalize DL c2 n=tk at *;obtain ⟨tx,rest,k3⟩:=tk;simp only at au U HK;refine eK ?_;refine cC rfl (HH.out _ Af Af) ?_;rintro _ ce ⟨⟨⟩,av⟩;revert O F E X;refine eY av ?_;intro cf O F E X;refine eK ?_;refine xA [_,_,_,_,_,_,_,_,_,_,_,_] ?_;intro cg ch aw;refine eI [_,_,_,_,_,_,_,_,_,_,_,_] aw ?_;intro ci N ax bh bj;revert O F E X;refine eE ax ?_;intro O F E X;refine eK ?_;refine cC rfl (HK.out _) ?_;rintro _ bk ⟨⟨⟩,aj⟩;revert N O F E X;refine eY aj ?_;intro bm N O F E X;refine C1 Mv (C1 Px (C1 Px (C1 Px (C1 Pa (C1 Pa (C1 Pa (cT (Al ?_))))))));cases k3 with
 | false=>
  rw [AH rfl] at U;subst U;refine eK ?_;refine C1 (xB [_,_,_,_,_,_,_,_,_,_,_,_]) (eS [_,_,_,_,_,_,_,_,_,_,_,_] O ?_);intro cj ay az ck;revert N F E X;refine eF az ?_;intro N F E X;refine eK ?_;refine Dc rfl Ab rfl rfl rfl ay rfl rfl rfl ?_;exact ⟨rfl,X⟩
 | true=>
 rw [At Ao] at U;have HP:=kh (fun w1 (h1:TabsF w1) (h2:Errs2 w1)=>Uc tx w1 Aa ⟨h1.t.sym⟩ h2.r);have ad:=(MF tx).1;have ae:=IR tx Aa;generalize A8 tx=pr at *;obtain ⟨g,off,er⟩:=pr;simp only at U ad ae;refine eK ?_;refine eQ rfl (HP.out _ Af Af) ?_;rintro _ bn ⟨bo,⟨bp,⟨bq,⟨br,⟨bs,⟨bt,⟨⟨⟩,⟨L,⟨M,⟨cl,ak⟩⟩⟩⟩⟩⟩⟩⟩⟩⟩;revert N O F E X;refine eY ak ?_;intro bu N O F E X;refine eK ?_;refine xA [_,_,_,_,_,_] ?_;intro bw bx V;refine Gp [_,_,_,_,_,_] Ab rfl rfl rfl rfl rfl rfl V rfl ?_;intro bz V;have f:=V.blk;dsimp only at f;have al:=V.ext;have b0:=V.pos;have b2:=V.size;revert L M N O F E X;refine eE al ?_;intro L M N O F E X;refine C1 Pa (C1 Pa (cT (Al ?_)));rcases (Decidable.em (er=0)).symm with he|he
 . rw [AH he] at U;subst U;refine eK ?_;refine C1 (xB [_,_,_,_,_,_,_,_,_,_,_,_]) (eS [_,_,_,_,_,_,_,_,_,_,_,_] O ?_);intro cm a0 a1 cn;revert f L M N F E X;refine eF a1 ?_;intro f L M N F E X;refine eK ?_;refine Dc rfl Ab rfl rfl rfl a0 rfl rfl rfl ?_;exact ⟨rfl,X⟩
 subst he;rw [At (fun h=>h rfl)] at U;have ac:=(ad rfl).1;have af:=ae rfl;clear ad ae;have HR:=kh (fun S va vc pa pc ma mc w1 (h1:TabsF w1) h2=>PO g S va vc pa pc ma mc w1 af h1.t h1.g h2);rw [AH ac,AH ac] at HR;have co:=gM ac;have HV:=kh (fun S va vc pa pc ma mc w1 h=>LB ⟨nm,po,fu,⟨bv,bl,bi⟩,g⟩ ⟨by simp only;omega,af,by simp only;omega⟩ S va vc pa pc ma mc w1 h);clear ac af;generalize a2:g.text=tg at *;refine cS (C1 Mv (C1 V2 (cT (FQ rfl (not_not_intro rfl) ?_))));refine eK ?_;refine cC rfl (HR.out _ _ _ _ _ _ _ _ Af Af) ?_;rintro _ cp ⟨⟨⟩,a3⟩;revert f N O F E X L M;refine eY a3 ?_;intro cq f N O F E X L M;refine C1 Mv (C1 Px (C1 Px (C1 Pa (C1 Pa (cT (Al ?_))))));rcases (Decidable.em (tg=tx)).symm with hx|hx
 . rw [AH hx] at U;subst U;refine eK ?_;refine C1 (xB [_,_,_,_,_,_,_,_,_,_,_,_]) (eS [_,_,_,_,_,_,_,_,_,_,_,_] O ?_);intro cr a4 a5 cu;revert f N F E X L M;refine eF a5 ?_;intro f N F E X L M;refine eK ?_;refine Dc rfl Ab rfl rfl rfl a4 rfl rfl rfl ?_;exact ⟨rfl,X⟩
 rw [At (fun h=>h hx)] at U;subst hx;clear a2;unfold EX.cells at HV;simp only at HV
 focus
  refine cS (C1 Mv (C1 V2 (C1 Mv (Kt (C1 Mv (Kt (C1 Mv (Kt (C1 V9 (C1 ZP (cT ?_)))))))))));refine FQ rfl (not_not_intro rfl) ?_;refine eK ?_;refine eV [_,_,_,_,_,_] [_,_,_,_,_,_,_,_,_,_,_,_] N ?_;intro cv Z a6 cw;revert f O F E X L M;refine eF a6 ?_;intro f O F E X L M;refine eK ?_;refine BG [_,_,_,_,_,_,_,_,_,_,_,_] Ab rfl rfl rfl Z rfl rfl rfl (cC rfl (HV.out _ _ _ _ _ _ _ _ ⟨Af,Af,Af⟩) ?_);rintro _ cx ⟨⟨⟩,a7⟩;revert Z f O F E X L M;refine eY a7 ?_;intro cy Z f O F E X L M;refine C1 Pt (cT ?_);refine Ko rfl (fun a8=>?_) (fun a8=>?_);rotate_left;refine Av (Ai ?_);rotate_left
 . rw [AH (of_decide_eq_false Af)] at U;subst U;refine cS (C1 (xB [_,_,_,_,_,_,_,_,_,_,_,_]) (eS [_,_,_,_,_,_,_,_,_,_,_,_] O ?_));intro cz a9 ba c0;revert Z f F E X L M;refine eF ba ?_;intro Z f F E X L M;refine eK ?_;refine Dc rfl Ab rfl rfl rfl a9 rfl rfl rfl ?_;exact ⟨rfl,X⟩
 . rw [At (fun h=>h (of_decide_eq_true Af))] at U;subst U;refine cS (BG [_,_,_,_,_,_,_,_,_,_,_,_] Ab rfl rfl rfl Z rfl rfl rfl (C1 Mv (eS [_,_,_,_,_,_,_,_,_,_,_,_] O ?_)));intro c4 bb bc c5;revert Z f F E X L M;refine eF bc ?_;intro Z f F E X L M;refine eK ?_;refine Dc rfl Ab rfl rfl rfl bb rfl rfl rfl ?_;exact ⟨_,_,_,_,_,_,rfl,⟨PG.sits.wide Af (fun b h=>by omega),PDsC.wide Af (fun b h=>by omega),Af⟩,X⟩
def OwnL.exs {w:wD} {B e:Nat} {a:oA} {len cap:Nat} {xs:List EX} {S:nP} (h:OwnL Gb w B e (.slice a len cap) xs) (E : ∀b,B<=b->S b):EXs S w xs a:=by
 by_cases F:xs=[]
 . exact kj F
 . obtain ⟨g,L,M,N,f⟩:=h.rows F;simp only [kT] at M;obtain ⟨rfl,-,-⟩:=M;refine kp ⟨g,0,rfl,E g N,fun i x O=>?_⟩;obtain ⟨cs,U,V,X,Y,Z,ma,mc,rfl,h2⟩:=f i x O;exact ⟨V,X,Y,Z,ma,mc,by simpa [Gb] using U,h2.wide (fun b hb=>E b hb.1)⟩
def ReadOk (x:EX) (rest:lB) (w:wD):Ending->wD->Prop:=fun e w'=> ∃va vc pa pc ma mc,e = .returned (.tuple #[.agg #[str x.name,.int .i64 x.points,.int .i64 x.fuel,.int .i64 x.box.v,.int .i64 x.box.l,.int .i64 x.box.i,.slice va x.g.vars.length vc,.slice pa x.g.procs.length pc,.int .u8 x.g.main.kind,.int .i64 x.g.main.num,str x.g.main.name,.slice ma x.g.main.kids.length mc],str rest,.int .i64 0])/\x.sits (w.heap.size <= ·) w' va pa ma vc/\Ext w w'
def ReadOk.ret {x:EX} {rest:lB} {w w':wD} {e:Ending} (h:ReadOk x rest w e w') : ∃v,e = .returned v:=by
 obtain ⟨_,_,_,_,_,_,h,-⟩:=h;exact ⟨_,h⟩
def cO {s:lB} {x:EX} {rest:lB} (h:Fu s = .ok (x,rest)) (f:s.length<=100000) (w:wD) (E:Errs2 w) (F:TabsF w):Calls prog 37 #[str s] w (ReadOk x rest w):=by
 have:=Zv s f w E F;rw [h] at this;exact this
def Zw {s:lB} {k:Int} (h:Fu s = .error k) (f:s.length<=100000) (w:wD) (E:Errs2 w) (F:TabsF w):Calls prog 37 #[str s] w fun e w'=>e = .returned (.tuple #[.agg #[str [],.int .i64 0,.int .i64 0,.int .i64 0,.int .i64 0,.int .i64 0,.slice none 0 0,.slice none 0 0,.int .u8 0,.int .i64 0,str [],.slice none 0 0],str [],.int .i64 k])/\Ext w w':=by
 have:=Zv s f w E F;rw [h] at this;exact this
def Xm {s:lB} {k:Int} (h:Fu s = .error k):k=3\/k=4:=by
 unfold Fu at h;split at h
 . injection h with h;omega
 split at h
 . injection h with h;omega
 split at h
 . injection h with h;omega
 split at h
 . injection h with h;omega
 split at h
 . injection h with h;omega
 split at h
 . injection h with h;omega
 . cases h
def UE {s:lB} {x:EX} {rest:lB} (h:Fu s = .ok (x,rest)):rest.length<=s.length/\x.valid:=by
 unfold Fu at h;split at h
 . cases h
 split at h
 . cases h
 split at h
 . cases h
 split at h
 . cases h
 split at h
 . cases h
 split at h
 . cases h
 rename_i f;injection h with h
 injection h with h1 h2
 subst h1 h2;have:=VG (EH s).2.1 (DD (B8 (EH s).1) 5).toNat;have:=Zu s;exact ⟨Aa,Classical.not_not.1 f⟩
noncomputable def Dz:Nat->List EX->Nat->lB->List EX×Int×Int
 | 0,_,_,_=>([],0,0)
 | n+1,acc,line,s=>
  if s=[] then (acc,0,0) else if acc.length=100 then ([],line,5) else match Fu s with
  | .error k=>([],line,k)
  | .ok (x,rest)=>if GR acc x.name=true then ([],line,22) else Dz n (acc++[x]) (line+Lib.countByte (s.take (s.length-rest.length)) 10) rest
noncomputable def Jn (s:lB):List EX×Int×Int:=if 65536<s.length then ([],0,5) else Dz 101 [] 1 s
def jG (q:List EX×Int×Int) (w:wD):Ending->wD->Prop:=fun e w'=> ∃a c,e = .returned (.tuple #[.slice a q.1.length c,.int .i64 q.2.1,.int .i64 q.2.2])/\q.1.length<=c/\EXs (w.heap.size <= ·) w' q.1 a/\Ext w w'
set_option maxHeartbeats 8000000 in
def P3 (s:lB) (hs:s.length<=9223372036854775807) (w:wD) (L:Errs2 w) (F:TabsF w) :
 Calls prog 18 #[str s] w (jG (Jn s) w):=by
 have X:=lN w;have bi:=F.g;unfold Jn;rcases (Decidable.em (65536<s.length)) with hl|hl
 . rw [AH hl];refine Ae func18 ntmps18 rfl rfl ?_;refine eK ?_;refine FI rfl rfl rfl rfl ?_;exact ⟨_,_,rfl,kv _,kj rfl,X⟩
 rw [At hl];refine Ae func18 ntmps18 rfl rfl ?_;refine cS (C1 Pa (C1 Pa (C1 Pa (cT (Al (cS (C1 Mv (C1 Py (C1 V5 (cT (E4 ?_)))))))))));refine Av (Ai (cS (C1 Pa (cN (C1 Pa (cT ?_))))));refine Al (Ax ?_);refine AM (ι:=lB×List EX×oA×Nat×Nat) (fun x=>[(0,str x.1),(5,.slice x.2.2.1 x.2.1.length x.2.2.2.1),(6,.int .i64 x.2.2.2.2)])
  (fun x w'=>x.2.1.length<=100/\x.2.2.2.2+x.1.length<=65537/\Dz 101 [] 1 s=Dz (101-x.2.1.length) x.2.1 x.2.2.2.2 x.1/\OwnL Gb w' w.heap.size 36 (.slice x.2.2.1 x.2.1.length x.2.2.2.1) x.2.1/\Errs2 w'/\TabsF w'/\Ext w w')
  (fun x=>100-x.2.1.length) (s,[],none,0,1) sB ⟨by simp only [ki];omega,by simp only;omega,rfl,OwnL.nil,L,F,X⟩ ?_
 clear L F X;rintro ⟨t,acc,a,cap,line⟩ U ⟨ag,ah,he,f,L,F,X⟩;simp only at ag ah he f;rw [he];clear he hl hs;generalize s=s0 at *;have hz:=X.size;refine CW.sub (m:=[(0,str t),(5,.slice a acc.length cap),(6,.int .i64 line)]) ?_ sB;obtain ⟨m,hm⟩ : ∃m,101-acc.length=m+1:=⟨100-acc.length,Aa⟩;rw [hm];by_cases Y:t=[]
 . rw [show Dz (m+1) acc line t=(acc,0,0) from by rw [Dz,AH Y]];subst Y;refine eK ?_;refine FI rfl rfl rfl rfl ?_;exact ⟨_,_,rfl,OwnL.cap f,OwnL.exs f (fun b h=>h),X⟩
 by_cases h1:acc.length=100
 . rw [show Dz (m+1) acc line t=([],(line:Int),5) from by rw [Dz,At Y,AH h1]];refine eK ?_;refine FI rfl rfl rfl rfl ?_;exact ⟨_,_,rfl,kC _,kj rfl,X⟩
 cases hr:Fu t with
 | error k=>
  rw [show Dz (m+1) acc line t=([],(line:Int),k) from by rw [Dz,At Y,At h1,hr]];have HR:=kh (fun U h1 h2=>Zw hr Aa U h1 h2);have hk:=Xm hr;clear hr;refine eK ?_;refine cC rfl (HR.out _ Af Af) ?_;rintro _ bj ⟨⟨⟩,ai⟩;revert f L F X;refine eY ai ?_;intro bk f L F X;refine eK ?_;refine xA [_,_,_,_,_,_,_,_,_,_,_,_] ?_;intro bm bn aj;refine eI [_,_,_,_,_,_,_,_,_,_,_,_] aj ?_;intro bo bp ak aq ar;revert f L F X;refine eE ak ?_;intro f L F X;refine eK ?_;refine FI rfl rfl rfl rfl ?_;exact ⟨_,_,rfl,kC _,kj rfl,X⟩
 | ok q=>
  obtain ⟨x,rest⟩:=q;have HR:=kh (fun U h1 h2=>cO hr Aa U h1 h2);have bq:=(UE hr).1;have HH:=kh (fun U h=>eJ acc Aa x.name (fun b=>w.heap.size<=b) a cap U h);have al:GR acc x.name=true->Dz (m+1) acc line t=([],(line:Int),22):=fun hh=>by rw [Dz,At Y,At h1,hr];exact AH hh
  have am:GR acc x.name=false->Dz (m+1) acc line t=Dz m (acc++[x]) (line+Lib.countByte (t.take (t.length-rest.length)) 10) rest:=fun hh=>by rw [Dz,At Y,At h1,hr];exact At (by rw [hh];decide)
  have an : ∀g,(lm a acc.length cap).ownBlock=some g->g<U.heap.size:=fun g h=>f.lt h
  have ao:=H9 (t.take (t.length-rest.length));rw [kU] at ao;have HN:Hid (∀U,Calls prog 33 #[str (t.take ((t.length:Int)-(rest.length:Int)).toNat),str [10]] U fun e w'=>e = .returned (.int .i64 (Lib.countByte (t.take (t.length-rest.length)) 10:Nat))/\w'=U):=kh fun U=>by
   rw [show ((t.length:Int)-(rest.length:Int)).toNat=t.length-rest.length from by omega];exact PL _ _
  clear hr;generalize Lib.countByte (t.take (t.length-rest.length)) 10=N at *;generalize GR acc x.name=q at *
  focus
   refine eK ?_;refine eQ rfl (HR.out _ Af Af) ?_;rintro _ br ⟨au,⟨av,⟨aw,⟨ax,⟨ay,⟨az,⟨⟨⟩,⟨M,ap⟩⟩⟩⟩⟩⟩⟩⟩;revert f L F X;refine eY ap ?_;intro a0 f L F X;refine eK ?_;refine xA [_,_,_,_,_,_,_,_,_,_,_,_] ?_;intro a1 a2 Z;refine eI [_,_,_,_,_,_,_,_,_,_,_,_] Z ?_;intro a3 E aa a4 a5;revert M f L F X;refine eE aa ?_;intro M f L F X;refine eK ?_;refine cC rfl (HH.out _ (OwnL.exs f (fun b h=>h))) ?_;rintro _ a6 ⟨⟨⟩,ab⟩;revert E M f L F X;refine eY ab ?_;intro a7 E M f L F X;refine C1 Z3 (cT ?_);refine E6 rfl (fun ac=>?_) (fun ac=>?_);refine eK ?_;refine FI rfl rfl rfl rfl ?_;rotate_left;refine eK ?_;refine BG [_,_,_,_,_,_,_,_,_,_,_,_] Ab rfl rfl rfl E rfl rfl rfl ?_;refine Au (xS [_,_,_,_,_,_,_,_,_,_,_,_]) rfl ?_ aFh;rintro _ a8 ⟨a9,rfl,O,ba⟩;have ad:=O.blk;have ae:=O.ext;have bb:=O.pos;have bc:=O.size;revert E M f L F X;refine eE ae ?_;intro E M f L F X;refine BV (sh:=Gb) Ab C9 rfl rfl rfl rfl BD rfl rfl rfl f (Blk.row Af) ⟨_,_,_,_,_,_,rfl,EX.sits.wide Af (fun b h=>⟨Aa,fun e=>by have:=an _ e;omega⟩)⟩ Aa Aa rfl ?_;rintro bd af be bf V;have bg:=V.size;clear ad E M f;revert L F X;refine eF V ?_;intro L F X;refine eK ?_;refine C1 (CM rfl rfl (kN _ Aa)) (C1 (Jt Ab rfl rfl rfl Aa Aa) (cC rfl (HN.out _) ?_));rintro _ bh ⟨⟨⟩,rfl⟩;refine C1 V7 (C1 Pa (cT (Ag (C1 Mv (C1 Pa (Ah (Ad ?_)))))));rotate_left
  . rw [al Af];exact ⟨_,_,rfl,kC _,kj rfl,X⟩
  . rw [am Af];refine Ay (rest,acc++[x],some ⟨_,0,none⟩,_,line+N) sB ⟨by simp only [j9,kf,ki];omega,by simp only;omega,by simp only [j9,kf,ki];rw [show 101-(acc.length+(0+1))=m from by omega],Af,Af,Af,X⟩ (by simp only [j9,kf,ki];omega)
def awText:lB:=[101,120,101,114,99,105,115,101,32,105,110,99,32,112,111,105,110,116,115,32,53,32,102,117,101,108,32,49,48,48,32,118,97,108,117,101,32,50,32,108,101,110,103,116,104,32,48,32,105,110,112,117,116,32,48,32,108,105,110,101,115,32,52,10,105,110,116,32,120,10,109,97,105,110,32,123,10,9,120,32,43,61,32,49,59,10,125,10]
def j4:PG:=⟨[⟨[120],1,0⟩],[],.mk 57 0 [] [.mk 40 0 [] [.mk 2 0 [120] [],.mk 1 1 [] []]]⟩
def awE:EX:=⟨[105,110,99],5,100,⟨2,0,0⟩,j4⟩
def S8:awE.valid:=of_decide_eq_true BD
def Zx:Jn awText=([awE],0,0):=by kernel_rfl
def cP:awE.text=awText:=by kernel_rfl
def Zy:EC [awE]=(awText,0):=by
 have E:BF [awE]=awText:=by unfold BF;rw [List.flatMap_cons,List.flatMap_nil,ll,cP]
 have F : ¬JK [awE]:=by
  rintro ⟨i,L,e,f,h⟩;simp only [kf,ki] at L;obtain rfl:i=0:=by omega
  simp [GR] at h
 rw [LF Ao (fun e f=>by rw [lM] at f;rw [f];exact S8) F (by rw [E];decide),E]
def eR:awE.wf:=by
 refine ⟨?_,?_,?_⟩
 . decide
 . exact IR (awText.drop 64) Ao BD
 . decide
def AwR (w:wD):Ending->wD->Prop:=fun e w'=> ∃b o va vc pa pc ma mc c,e = .returned (.tuple #[.slice (some ⟨b,o,none⟩) 1 c,.int .i64 0,.int .i64 0])/\Row w' ⟨b,o,none⟩ [str [105,110,99],.int .i64 5,.int .i64 100,.int .i64 2,.int .i64 0,.int .i64 0,.slice va 1 vc,.slice pa 0 pc,.int .u8 57,.int .i64 0,str [],.slice ma 1 mc]/\awE.sits (w.heap.size <= ·) w' va pa ma vc/\1<=c/\EXs (w.heap.size <= ·) w' [awE] (some ⟨b,o,none⟩)/\Ext w w'
def AwR.ret {w w':wD} {e:Ending} (h:AwR w e w') : ∃v,e = .returned v:=by
 obtain ⟨_,_,_,_,_,_,_,_,_,h,-⟩:=h;exact ⟨_,h⟩
def jH (w:wD) (E:Errs2 w) (F:TabsF w):Calls prog 18 #[str awText] w (AwR w):=by
 have h:=P3 awText Ao w E F;rw [Zx] at h;refine h.mono ?_;rintro e w' ⟨a,c,h1,L,f,X⟩;obtain ⟨b,o,rfl,-,M⟩:=mq f A6;obtain ⟨N,O,U,V,Y,Z,r,s⟩:=M 0 _ rfl;exact ⟨b,o,N,O,U,V,Y,Z,c,h1,r,s,L,f,X⟩
def AwS (w:wD):Ending->wD->Prop:=fun e w'=> ∃va vc pa pc b o mc n s xa xl xc,e = .returned (.tuple #[.agg #[.slice va 1 vc,.slice pa 0 pc,.int .u8 57,.int .i64 0,str [],.slice (some ⟨b,o,none⟩) 1 mc],.int .i64 0])/\Row w' ⟨b,o,none⟩ [.int .u8 41,.int .i64 n,str s,.slice xa xl xc]/\Ext w w'
def AwS.ret {w w':wD} {e:Ending} (h:AwS w e w') : ∃v,e = .returned v:=by
 obtain ⟨_,_,_,_,_,_,_,_,_,_,_,_,h,-⟩:=h;exact ⟨_,h⟩
def j6:PG:=⟨[⟨[120],1,0⟩],[],.mk 57 0 [] [.mk 41 0 [] [.mk 2 0 [120] [],.mk 1 1 [] []]]⟩
def jj:awE.g.pinv=j6:=by kernel_rfl
def gN (S:nP) (f:oA) (E:Nat) (F:oA) (Z:Nat) (L:oA) (mc:Nat) (w:wD) (hs:awE.sits S w f F L E) :
 Calls prog 22 #[.agg #[str [105,110,99],.int .i64 5,.int .i64 100,.int .i64 2,.int .i64 0,.int .i64 0,.slice f 1 E,.slice F 0 Z,.int .u8 57,.int .i64 0,str [],.slice L 1 mc]] w (AwS w):=by
 have h:=bR awE eR S8 S f E F Z L mc w hs;rw [jj] at h;refine Calls.mono h ?_;rintro e w' ⟨M,N,O,U,V,Y,h1,h2,-,-,X⟩;have hm:=h2.main;obtain ⟨b,o,xa,xc,rfl,-,r,-⟩:=jA (show rowSits _ w' [.mk 41 0 [] [.mk 2 0 [120] [],.mk 1 1 [] []]] V from hm);exact ⟨M,N,O,U,b,o,Y,_,_,_,_,_,h1,r,X⟩
def Xn (w:World) (M:Errs2 w) (L:TabsF w):Calls prog 10 #[] w fun e w'=>e = .returned (.bool true)/\Ext w w':=by
 have X:=lN w;have al:=L.g;have HP:=kh (fun Y h1 h2=>jH Y h1 h2);have HR:=kh (fun S a c hc Y h1 h2=>PQ [awE] (fun e he=>by rw [lM] at he;rw [he];exact eR) S a c Ao hc Y h1 h2);rw [Zy] at HR;have HS:=kh (fun S va vc pa pc ma mc Y h=>gN S va vc pa pc ma mc Y h);have am:str awText = .string ⟨awText.toArray⟩:=rfl;refine Ae func10 ntmps10 rfl rfl ?_
 refine cS (C1 Pa (cN (C1 Pa (cN (C1 Mv ?_)))));refine eQ rfl (HP.out _ Af Af) ?_;rintro _ an ⟨b1,⟨o2,⟨ao,⟨ap,⟨aq,⟨ar,⟨au,⟨av,⟨c9,⟨⟨⟩,⟨f,⟨E,⟨aw,⟨F,N⟩⟩⟩⟩⟩⟩⟩⟩⟩⟩⟩⟩⟩⟩;have ax:=N.size;revert M L X;refine eE N ?_;intro M L X;clear N;refine C1 Mv (C1 Px (C1 Px (C1 Px (C1 Pa (C1 Pa (C1 Pa (cT (Al (cS (C1 Mv (C1 V2 ?_)))))))))));refine C1 Mv (Kt (C1 Mv (Kt (C1 V2 (C1 ZP (C1 Mv (Kt (C1 Mv (Kt (C1 Pz (Kt ?_)))))))))));refine C1 V2 (C1 ZP (C1 Mv (Kt (C1 Mv (Kt (C1 Pi (Kt (C1 Pg (Kt (C1 (Pw f) (Kt ?_)))))))))));refine C1 V9 (C1 ZP (C1 Mv (Kt (C1 Mv (Kt (C1 Pi (Kt (C1 Pf (Kt (C1 (Pw f) (Kt ?_)))))))))));refine C1 V2 (C1 ZP (cT (Ij (Av (Ai (cS (C1 Mv ?_)))))));refine cC rfl (HR.out _ _ _ Af _ Af Af) ?_;rintro _ ay ⟨⟨⟩,O⟩;have az:=O.size;revert f E F M L X;refine eE O ?_;intro f E F M L X;clear O;refine C1 Mv (C1 Px (C1 Px (C1 Pa (C1 Pa (cN (C1 Mv (C1 Pi (Cf [_,_,_,_,_,_,_,_,_,_,_,_] Ab rfl rfl rfl f rfl rfl rfl ?_))))))));refine eQ rfl (HS.out _ _ _ _ _ _ _ _ Af) ?_;rintro _ a0 ⟨ad,⟨ae,⟨af,⟨ag,⟨a1,⟨a2,⟨ah,⟨a3,⟨a4,⟨ai,⟨aj,⟨ak,⟨⟨⟩,⟨U,V⟩⟩⟩⟩⟩⟩⟩⟩⟩⟩⟩⟩⟩⟩;have a5:=V.size;revert f E F M L X;refine eE V ?_;intro f E F M L X;clear V;refine C1 Mv (C1 Px (C1 Px ?_));refine Hm [_,_,_,_,_,_] C9 rfl rfl ?_
 intro a6 ac Z;refine eI [_,_,_,_,_,_] Z ?_;clear Z ac;intro a7 aa ab a8 a9;revert U f E F M L X;refine eE ab ?_;intro U f E F M L X;clear ab;refine C1 Pa (cN (C1 Mv (C1 V1 (C1 Mv (MI (C1 Mv (MI (C1 Mv (MI (C1 V8 (C1 Z3 ?_)))))))))));refine C1 Mv (MI (C1 Mv (MI (C1 V1 (C1 Z3 (C1 Mv (MI (C1 Pf (MI (C1 Pf (MI ?_)))))))))));refine C1 (Pl aa) (MI (C1 Pz (MI (C1 V1 (C1 Z3 (C1 Mv (MI (C1 Pf (MI (C1 Pf (MI ?_)))))))))));refine C1 (Pl aa) (MI (C1 Pi (MI (C1 Pg (MI (C1 (Pw U) (MI (C1 V1 (C1 Z3 (C1 Pa (cT ?_)))))))))));refine BO (Bo rfl rfl ?_)
 exact ⟨rfl,X⟩
def CntR (d:Nat) (w:wD):Ending->wD->Prop:=fun e w'=> ∃v:Int,e = .returned (.int .i64 v) /\ -1<=v/\v<=1001*d/\Ext w w'
def CntR.ret {d:Nat} {w w':wD} {e:Ending} (h:CntR d w e w') : ∃v,e = .returned v:=by
 obtain ⟨_,h,-⟩:=h;exact ⟨_,h⟩
def S9 : ∀(d:Nat),d<=100 -> ∀(t:Nd) (S:Nat->Prop) (a:Option Addr) (c:Nat) (w:World),t.wf->t.sits S w a->Calls prog 76 #[t.val a c,.int .i64 d] w (CntR d w)
 | 0,_,⟨k,n,s,l⟩,S,a,c,w,M,E=>by
  have X:=lN w;simp only [lZ,mj,md,l9,ml];refine Ae func76 ntmps76 rfl rfl ?_
  refine cS ?_;refine eB [_,_,_,_] ?_;intro b1 w2 h4 x5 p6 z7;replace E:=Nd.sits.ext E x5;replace X:=X.ext x5;clear x5;refine C1 Pa (cT (Al (cS (C1 Mv (C1 V3 (cT (jt (cS (C1 Pa (cT (BO ?_)))))))))));refine AL (Bo rfl rfl ?_)
  exact ⟨_,rfl,Aa,Aa,X⟩
 | d+1,hd,⟨k,n,s,l⟩,S,a,c,w,M,E=>by
  have X:=lN w;simp only [lZ,mj,md,l9,ml];have E:=(MK _ _ E:(Nd.mk k n s l).sits _ w a);simp only [Nd.sits] at E;simp only [Nd.wf] at M;have HI:=kh (S9 d Aa)
  have af:l.length<=9223372036854775807:=by omega
  have HW:=kh (rowWf_iff.1 M.2.2.2.2.2.2);clear M
  have O:((d+1:Nat):Int)=(d:Int)+1:=by omega
  rw [O];refine Ae func76 ntmps76 rfl rfl ?_
  refine cS ?_;refine GW [_,_,_,_] rfl rfl rfl ?_;intro U ag L;have f:=L.blk;have V:=L.ext;have ah:=L.pos;have ai:=L.size;clear L E;replace X:=X.ext V;replace E:=Bk.rowSits.ext E V;clear V;refine C1 Pa (cT (Al (cS (C1 Mv (C1 V3 (cT (E4 (Av (Ai (cS (C1 Pa ?_)))))))))));refine cT (Al (cS (C1 Pa (cT ?_))))
  refine Ax ?_;refine AM (ι:=Nat×Int) (fun x=>[(1,.int .i64 ((d:Int)+1)),(2,.pointer (some ⟨U,0,none⟩)),(5,.int .i64 x.2),(6,.int .i64 x.1)])
   (fun x w'=>x.1<=l.length/\(1<=x.2/\x.2<=1001*((d:Int)+1))/\Blk w' U [.int .u8 k,.int .i64 n,str s,.slice a l.length c]/\rowSits S w' l a/\Ext w w') (fun x=>l.length-x.1) (0,1) sB ⟨kC _,⟨Aa,by simp only;omega⟩,f,E,X⟩ ?_
  clear f E X;rintro ⟨i,v⟩ Y ⟨hi,⟨aa,ab⟩,f,E,X⟩;simp only at hi aa ab;refine CW.sub (m:=[(1,.int .i64 ((d:Int)+1)),(2,.pointer (some ⟨U,0,none⟩)),(5,.int .i64 v),(6,.int .i64 i)]) ?_ sB
  by_cases N:i<l.length
  . obtain ⟨kb,ko,rfl,aj,hk⟩:=Bx E (by intro h;rw [h] at N;simp at N);obtain ⟨xa,xc,rx,sx⟩:=hk i _ (kg N);have Z:=HW.out _ (kq N);clear hk
    generalize l[i]=x at *
    replace HI:Hid (∀a c Y,x.sits S Y a->Calls prog 76 #[x.val a c,.int .i64 ((d:Int)+1-1)] Y (CntR d Y)):=kh fun a c Y h=>by rw [Int.add_sub_cancel];exact HI.out x S a c Y Z h
    clear Z;obtain ⟨xk,xn,xs,xl⟩:=x;simp only [lZ,mj,md,l9,ml,Nd.cells] at rx HI
    focus
     refine Al (cS (C1 Mv (C1 Pf (C1 (Pl f) (C1 Pz (C1 V3 (cT (fE (Av (Ai (Al ?_)))))))))));refine Ax (cS (C1 Pf (C1 (Pl f) (C1 Mv (C1 Pi (C1 (XU rx) (C1 Mv ?_)))))));refine C1 (CM rfl rfl (kN _ Aa)) ?_;refine eQ rfl (HI.out _ _ _ Af) ?_;rintro _ ak ⟨ac,⟨⟨⟩,⟨al,⟨am,F⟩⟩⟩⟩;have an:=F.size;replace X:=X.ext F;replace f:=f.ext F;replace E:=Bk.rowSits.ext E F;replace rx:=rx.ext F;replace sx:=Nd.sits.ext sx F;clear F;refine C1 Pa (cT (Al (cS (C1 Mv (C1 V3 (C1 Mv ?_))))));refine DG rfl rfl rfl (fun ad=>?_) (fun ad=>?_);refine Wa (Wa (C1 ZO (cT (CS rfl (cS (C1 Pa (cT (BO (AL (AV (AL ?_)))))))))));refine AL (AV (AL (Bo rfl rfl ?_)));rotate_left;refine dT (C1 Mv (dT (C1 V5 (C1 XT (cT ?_)))));refine AF rfl (fun ae=>?_) (fun ae=>?_);refine cS (C1 Pa (cT (BO (AL (AV (AL (AL (AV (AL (Bo rfl rfl ?_))))))))));rotate_left;refine Av (Ai (Ag (C1 Mv (C1 Mv (C1 V7 (C1 Pa (Ah (Ad (Ai (Ag (C1 Mv ?_)))))))))));refine C1 V7 (C1 Pa (Ah ?_));rotate_left
    . exact ⟨_,rfl,Aa,Aa,X⟩
    . exact ⟨_,rfl,Aa,Aa,X⟩
    . exact Ay (i+1,v+ac) sB ⟨by (try dsimp only);omega,⟨by (try dsimp only);omega,by (try dsimp only);omega⟩,f,E,X⟩ (by (try dsimp only);omega)
  . have:i=l.length:=by omega
    subst this
    refine Al (cS (C1 Mv (C1 Pf (C1 (Pl f) (C1 Pz (C1 V3 (cT (E4 (DP (AQ (AQ ?_)))))))))));refine Bs (Ai (cS (C1 Mv (C1 Pa (cT (BO (Bo rfl rfl ?_)))))))
    exact ⟨_,rfl,Aa,Aa,X⟩
def BoolR (w:wD):Ending->wD->Prop:=fun e w'=> ∃b:Bool,e = .returned (.bool b)/\Ext w w'
def BoolR.ret {w w':wD} {e:Ending} (h:BoolR w e w') : ∃v,e = .returned v:=by
 obtain ⟨_,h,-⟩:=h;exact ⟨_,h⟩
def Zz (t:Nd) (E:t.wf) (S:nP) (a:oA) (c:Nat) (w:wD) (f:t.sits S w a):Calls prog 41 #[t.val a c] w (BoolR w):=by
 have X:=lN w;have L:=kh (fun U h=>S9 100 Aa t S a c U E h);clear E;obtain ⟨k,n,s,l⟩:=t;simp only [lZ,mj,md,l9,ml] at L ⊢;refine Ae func41 ntmps41 rfl rfl ?_
 focus
  refine cS (eB [_,_,_,_] ?_);intro b1 w2 F V p6 z7;revert X f;refine eE V ?_;intro X f;refine eK ?_;refine eQ rfl (L.out _ Af) ?_;rintro _ Y ⟨v8,⟨⟨⟩,⟨h9,⟨Z,M⟩⟩⟩⟩;revert F X f;refine eY M ?_;intro aa F X f;refine eK ?_;refine DG rfl rfl rfl (fun N=>?_) (fun N=>?_);refine eK ?_;refine xR ?_;rotate_left;refine eK ?_;refine eQ rfl (L.out _ Af) ?_;rintro _ ab ⟨ac,⟨⟨⟩,⟨ad,⟨ae,O⟩⟩⟩⟩;revert F X f;refine eY O ?_;intro z20 F X f;refine eK ?_;refine xR ?_;rotate_left
 all_goals exact ⟨_,rfl,X⟩
def BigR (g:PG) (w:wD):Ending->wD->Prop:=fun e w'=> ∃b:Bool,e = .returned (.bool b)/\(b=false->g.vars.length<=40/\g.procs.length<=70)/\Ext w w'
def BigR.ret {g:PG} {w w':wD} {e:Ending} (h:BigR g w e w') : ∃v,e = .returned v:=by
 obtain ⟨_,h,-⟩:=h;exact ⟨_,h⟩
def gO (g:PG) (E:g.wf) (S:nP) (va:oA) (vc:Nat) (U:oA) (pc:Nat) (V:oA) (mc:Nat) (w:wD) (hs:g.sits S w va U V):Calls prog 21 #[.agg (g.cells va vc U pc V mc).toArray] w (BigR g w):=by
 have X:=lN w;have HB:=kh (fun Y h=>Zz g.main E.main S V mc Y h);have hv:=E.nv;have hp:=E.np;have HW:=kh E.procs;have f:=hs.procs;have M:=hs.main;clear hs E;obtain ⟨vars,procs,m⟩:=g;simp only [ml] at HB f M hv hp HW ⊢;refine Ae func21 ntmps21 rfl rfl ?_
 focus
  refine cS (GW [_,_,_,_,_,_] rfl rfl rfl ?_);intro b1 w2 Z;have F:=Z.blk;dsimp only at F;have x5:=Z.ext;have p6:=Z.pos;have z7:=Z.size;revert X f M;refine eE x5 ?_;intro X f M;refine eK ?_;refine DG rfl rfl rfl (fun c8=>?_) (fun c8=>?_);refine eK ?_;refine xR ?_;rotate_left;refine eK ?_;refine DG rfl rfl rfl (fun c9=>?_) (fun c9=>?_);refine eK ?_;refine xR ?_;rotate_left;refine eK ?_;refine eQ rfl (HB.out _ Af) ?_;rintro _ af ⟨ag,⟨⟨⟩,aa⟩⟩;revert F X f M;refine eY aa ?_;intro ah F X f M;refine C1 XT (cT ?_);refine E6 rfl (fun ab=>?_) (fun ab=>?_);refine eK ?_;refine xR ?_;rotate_left;refine Av (Ai (Al (cS (C1 Pa (cT ?_)))));rotate_left
 . exact ⟨_,rfl,(fun h=>by cases h),X⟩
 . exact ⟨_,rfl,(fun h=>by cases h),X⟩
 . exact ⟨_,rfl,(fun h=>by cases h),X⟩
 refine Ax ?_;refine AM (ι:=Nat) (fun j=>[(1,.pointer (some ⟨b1,0,none⟩)),(3,.int .i64 j)])
  (fun j w'=>j<=procs.length/\Blk w' b1 [.slice va vars.length vc,.slice U procs.length pc,.int .u8 m.kind,.int .i64 m.num,str m.name,.slice V m.kids.length mc]/\PDs S w' procs U/\Ext w w') (fun j=>procs.length-j) 0 sB ⟨kC _,F,f,X⟩ ?_
 clear F f X M;rintro j Y ⟨hj,F,f,X⟩;by_cases N:j<procs.length
 . obtain ⟨kb,ko,rfl,-,hk⟩:=mq f Aa;obtain ⟨xa,xc,ya,yc,rx,-,sx⟩:=hk j _ (kg N);have L:=HW.out _ (kq N);clear hk;generalize procs[j]=x at *;have O:=kh (fun Y h=>Zz x.body L.body S ya yc Y h);have ai:=L.len;clear L;simp only [ml] at O
   focus
    refine eK ?_;refine C1 (Pw rx) ?_;refine eK ?_;refine DG rfl rfl rfl (fun ac=>?_) (fun ac=>?_);refine eK ?_;refine xR ?_;rotate_left;refine eK ?_;refine Cf [_,_,_,_] Ab rfl rfl rfl rx rfl rfl rfl (dT (eQ rfl (O.out _ Af) ?_));rintro _ aj ⟨ak,⟨⟨⟩,ad⟩⟩;revert X F f rx sx;refine eY ad ?_;intro al X F f rx sx;refine C1 XT (cT ?_);refine E6 rfl (fun ae=>?_) (fun ae=>?_);refine eK ?_;refine xR ?_;rotate_left;refine Av (Ad (Ai (Ag (C1 Mv (C1 V7 (C1 Pa (Ah ?_)))))));rotate_left
   . exact ⟨_,rfl,(fun h=>by cases h),X⟩
   . exact ⟨_,rfl,(fun h=>by cases h),X⟩
   . exact Ay (j+1) sB ⟨Aa,F,f,X⟩ Aa
 . refine eK ?_;refine xR ?_;exact ⟨_,rfl,(fun _=>⟨by (try dsimp only);omega,by (try dsimp only);omega⟩),X⟩
def jk (e:EX) (M:oA) (N:Nat) (O:oA) (U:Nat) (V:oA) (Y:Nat) (w:wD) :
 Calls prog 13 #[.agg (e.cells M N O U V Y).toArray] w fun r w'=>r = .returned (.agg (e.cells M N O U V Y).toArray)/\Ext w w':=by
 have X:=lN w;unfold EX.cells;refine Ae func13 ntmps13 rfl rfl ?_;refine cS (eB [_,_,_,_,_,_,_,_,_,_,_,_] ?_);intro b1 w2 f Z p6 z7;have X:=X.ext Z;refine eA [_,_,_,_,_,_,_,_,_,_,_,_] ?_;intro b8 w9 h E aa ab;revert f X;refine eE E ?_;intro f X;refine eK ?_;refine C1 (xB [_,_,_,_,_,_,_,_,_,_,_,_]) (eS [_,_,_,_,_,_,_,_,_,_,_,_] h ?_);intro ac F L ad;revert f X;refine eF L ?_;intro f X;refine eK ?_;refine xC F ?_;exact ⟨rfl,X⟩
def gP {g:PG} (hg:g.few) (S S':nP) (N O U f h E:oA) (X Y Z F L M:Nat) (w:wD) (hs:g.sits S w N O U) (V:g.sits S' w f h E) :
 Calls prog 23 #[.agg (g.cells N X O Y U Z).toArray,.agg (g.cells f F h L E M).toArray] w fun e w'=>e = .returned (.bool true)/\Ext w w':=bG g S S' N O U f h E X Y Z F L M w hg hs V
def UF:(prog.fieldsOf 27).toList.map (fun f=>(f.name == "_",f.type,f.offset))=[(false,3,0),(false,3,1),(false,3,2)]:=by kernel_rfl
def Xo:prog.underlying 27=some (.struct (prog.fieldsOf 27)):=by kernel_rfl
def Xp:prog.stoodInHeld 27=false:=by kernel_rfl
def Xq:prog.eqGuardType prog.depth 27=false:=by kernel_rfl
def BoxV.val (b:BoxV):Value:=.agg #[.int .i64 b.v,.int .i64 b.l,.int .i64 b.i]
def Rh (b:BoxV) (w:wD):(Op.equalIn 10000 27 b.val b.val).run prog w = .ok true w:=by
 unfold BoxV.val
 rw [show (10000:Nat)=9999+1 from rfl,run_equalIn_agg w 9999 _ _ _ Xo Xp];refine Hc _ (fun f F=>?_);have E:(f.name == "_",f.type,f.offset)∈(prog.fieldsOf 27).toList.map (fun f=>(f.name == "_",f.type,f.offset)):=List.mem_map.2 ⟨f,F,rfl⟩;rw [UF] at E;simp only [kF,kI,or_false,kX] at E
 rcases E with ⟨-,h1,h⟩|⟨-,h1,h⟩|⟨-,h1,h⟩
 . rw [h1,h]
   refine ⟨.int .i64 b.v,Hz (cs:=[.int .i64 b.v,.int .i64 b.l,.int .i64 b.i]) Ab rfl rfl rfl w,?_⟩
   rw [run_equalIn_int w 9998 _ _ .i64 _ _ (show prog.underlying 3=some (.int .i64) from (Ab 3 (.int .i64) 1 rfl).under)];simp
 . rw [h1,h]
   refine ⟨.int .i64 b.l,Hz (cs:=[.int .i64 b.v,.int .i64 b.l,.int .i64 b.i]) Ab rfl rfl rfl w,?_⟩
   rw [run_equalIn_int w 9998 _ _ .i64 _ _ (show prog.underlying 3=some (.int .i64) from (Ab 3 (.int .i64) 1 rfl).under)];simp
 . rw [h1,h]
   refine ⟨.int .i64 b.i,Hz (cs:=[.int .i64 b.v,.int .i64 b.l,.int .i64 b.i]) Ab rfl rfl rfl w,?_⟩
   rw [run_equalIn_int w 9998 _ _ .i64 _ _ (show prog.underlying 3=some (.int .i64) from (Ab 3 (.int .i64) 1 rfl).under)];simp
def UG {n:Nat} {l:Sl} {S:wD->Prop} {ty t':TypeId} {x y:Operand} {b:BoxV} (E:ev l x=some (.agg #[.int .i64 b.v,.int .i64 b.l,.int .i64 b.i])) (F:ev l y=some (.agg #[.int .i64 b.v,.int .i64 b.l,.int .i64 b.i])):BA prog n l S (.binOp .neq 27 x y t') ty (.bool false):=by
 unfold BA;intro a w L pos after g f _;have M:=run_eqGuard_agg (P:=prog) w .neq 27 x y #[.int .i64 b.v,.int .i64 b.l,.int .i64 b.i] #[.int .i64 b.v,.int .i64 b.l,.int .i64 b.i] Xq;have h:(binOp .neq 27 b.val b.val).run prog w = .ok (.bool false) w:=by
  unfold BoxV.val;rw [run_neq_struct];have:=Rh b w;unfold BoxV.val at this;rw [this];rfl
 unfold BoxV.val at h;simp only [execOp,f.ev E,f.ev F,kB,M,h,lw,kJ]
set_option maxHeartbeats 8000000 in
def cQ (l:List EX) (aq:l.length<=1000000) (hf : ∀e∈l,e.g.few) (S S':nP) (a a':oA) (c c':Nat) (w:wD) (O:EXs S w l a) (h:EXs S' w l a') :
 Calls prog 20 #[.slice a l.length c,.slice a' l.length c'] w fun r w'=>r = .returned (.bool true)/\Ext w w':=by
 have X:=lN w;have O:=O.ltA;have h:=h.ltA;have HF:=kh hf;clear hf;refine Ae func20 ntmps20 rfl rfl ?_;refine cS (C1 Pa (cT (Al (cS (C1 Mv (C1 Pz (C1 Mv (C1 Pz (C1 V2 (cT (E4 ?_)))))))))));refine Av (Ai (Al (cS (C1 Mv (C1 Pz (C1 Mv (cT ?_)))))));refine Ax ?_;refine AM (ι:=Nat) (fun j=>[(0,.slice a l.length c),(1,.slice a' l.length c'),(12,.int .i64 l.length),(13,.int .i64 j)])
  (fun j w'=>j<=l.length/\EXs (· < w.heap.size) w' l a/\EXs (· < w.heap.size) w' l a'/\Ext w w') (fun j=>l.length-j) 0 sB ⟨kC _,O,h,X⟩ ?_
 clear O h X;rintro j w1 ⟨hj,O,h,X⟩;by_cases Y:j<l.length
 . obtain ⟨kb,ko,rfl,-,hk⟩:=mq O Aa;obtain ⟨ar,au,rfl,-,ac⟩:=mq h Aa;obtain ⟨va,vc,pa,pc,ma,mc,rx,sx⟩:=hk j _ (kg Y);obtain ⟨ai,aj,ak,al,am,an,L,M⟩:=ac j _ (kg Y);have ad:=HF.out _ (kq Y);clear hk ac;generalize l[j]=e at *;have HE:=kh (fun w1 h1 h2=>gP ad (· < w.heap.size) (· < w.heap.size) va pa ma ai ak am vc pc mc aj al an w1 h1 h2);clear ad;have hg:=sx.g;have U:=M.g;unfold EX.cells at rx L;refine eK ?_;refine AE (fun N=>Ext w1 N) 61 (.pure 0 (.pure 1 (.pure 2 (.pure 3 (.pure 4 (.pure 5 (.pure 6 (.pure 7 (.pure 8 (.pure 9 (.pure 10 (.pure 11 (.pure 12 (.pure 13 (.pure 14 (.pure 15 (.pure 16 (.pure 17 (.pure 18 (.pure 19 (.pure 20 (.pure 21 (.pure 22 (.pure 23 (.pure 24 (.pure 25 (.pure 26 (.pure 27 (.pure 28 (.pure 29 (.pure 30 (.pure 31 (.pure 32 (.pure 33 (.pure 34 (.pure 35 (.pure 36 (.pure 37 (.pure 38 (.pure 39 (.pure 40 (.pure 41 (.pure 42 (.pure 43 (.pure 44 (.pure 45 (.pure 46 (.pure 47 (.pure 48 (.pure 49 (.pure 50 (.pure 51 (.pure 52 (.pure 53 (.pure 54 (.pure 55 (.pure 56 (.pure 57 (.pure 58 (.pure 59 (.pure 60 .tail))))))))))))))))))))))))))))))))))))))))))))))))))))))))))))) mixed BD (Ac (Ak (Ac (Ac (Ak (Ac An)))))) ?_;intro ao ae _;have V:(fun N=>Ext w1 N) ao:=ae;simp only at V;have af:=O;have Z:=h;have E:=rx;have ag:=sx;have f:=L;have aa:=M;have ah:=hg;have ab:=U;revert X O h rx sx L M hg U;refine eY ae ?_;intro av X O h rx sx L M hg U;refine ⟨V,?_⟩;refine eT ?_;refine Tq rfl (AA Ab rfl rfl rfl (fun N F=>mx (mf E F) rfl)) ?_;refine eT ?_;refine Tq rfl (AA Ab rfl rfl rfl (fun N F=>mx (mf f F) rfl)) (Tq rfl V9 (Tq rfl Mv (IN rfl rfl rfl rfl (EG (not_not_intro rfl)) (A0 rfl) rfl (IN rfl rfl rfl rfl (EG (not_not_intro rfl)) (A0 rfl) rfl (IN rfl rfl rfl rfl (EG (not_not_intro rfl)) (AG Ab rfl rfl rfl rfl Aa Aa) rfl (IN rfl rfl rfl rfl (EG (not_not_intro rfl)) (AK Ab rfl rfl rfl) rfl (IN rfl rfl rfl rfl (EG (not_not_intro rfl)) (AA Ab rfl rfl rfl (fun N F=>Row.at (mf E F) rfl)) rfl (IN rfl rfl rfl rfl (EG (not_not_intro rfl)) (A0 rfl) rfl (IN rfl rfl rfl rfl (EG (not_not_intro rfl)) (A0 rfl) rfl (IN rfl rfl rfl rfl (EG (not_not_intro rfl)) (AG Ab rfl rfl rfl rfl Aa Aa) rfl (IN rfl rfl rfl rfl (EG (not_not_intro rfl)) (AK Ab rfl rfl rfl) rfl ?_)))))))))))
   refine IN rfl rfl rfl rfl (EG (not_not_intro rfl)) (AA Ab rfl rfl rfl (fun N F=>Row.at (mf f F) rfl)) rfl (IN rfl rfl rfl rfl (EG (not_not_intro rfl)) (Qm rfl rfl) rfl (Tq rfl (Qn (not_not_intro rfl)) (Tq rfl Mv (eN rfl (A0 rfl) (eN rfl (A0 rfl) (eN rfl (AG Ab rfl rfl rfl rfl Aa Aa) (eN rfl (AK Ab rfl rfl rfl) (eN rfl (AA Ab rfl rfl rfl (fun N F=>Row.at (mf E F) rfl)) (eN rfl (A0 rfl) (eN rfl (A0 rfl) (eN rfl (AG Ab rfl rfl rfl rfl Aa Aa) ?_)))))))))));refine eN rfl (AK Ab rfl rfl rfl) (eN rfl (AA Ab rfl rfl rfl (fun N F=>Row.at (mf f F) rfl)) (eN rfl (Qm rfl rfl) (Tq rfl O2 (Tq rfl Mv (eN rfl (A0 rfl) (eN rfl (A0 rfl) (eN rfl (AG Ab rfl rfl rfl rfl Aa Aa) (eN rfl (AK Ab rfl rfl rfl) (eN rfl (CN [_,_,_] Ab rfl rfl rfl (fun N F=>(mf E F)) rfl rfl) (eN rfl (A0 rfl) (eN rfl (A0 rfl) ?_)))))))))));refine eN rfl (AG Ab rfl rfl rfl rfl Aa Aa) (eN rfl (AK Ab rfl rfl rfl) (eN rfl (CN [_,_,_] Ab rfl rfl rfl (fun N F=>(mf f F)) rfl rfl) (eN rfl (UG (b:=e.box) rfl rfl) (Tq rfl O2 (Tq rfl Mv (eN rfl (A0 rfl) (eN rfl (A0 rfl) (eN rfl (AG Ab rfl rfl rfl rfl Aa Aa) (eN rfl (AK Ab rfl rfl rfl) (eN rfl (CN [_,_,_,_,_,_] Ab rfl rfl rfl (fun N F=>(mf E F)) rfl rfl) (eN rfl (A0 rfl) ?_)))))))))));refine eN rfl (A0 rfl) (eN rfl (AG Ab rfl rfl rfl rfl Aa Aa) (eN rfl (AK Ab rfl rfl rfl) (eN rfl (CN [_,_,_,_,_,_] Ab rfl rfl rfl (fun N F=>(mf f F)) rfl rfl) ?_)));clear V af Z E ag f aa ah ab;refine AI rfl (Bl rfl rfl rfl (rfl) (cC rfl (HE.out _ Af Af) ?_));rintro _ aw ⟨⟨⟩,ap⟩;revert X O h rx sx L M hg U;refine eY ap ?_;intro ax X O h rx sx L M hg U
   refine Bl rfl rfl rfl (rfl) (C1 Pt (C1 (Cd rfl rfl rfl) (cT (CT rfl (Av (Ad (Ai (Ag (C1 V7 (C1 Mv (Ah ?_)))))))))));exact Ay (j+1) sB ⟨Aa,O,h,X⟩ Aa
 . obtain rfl:j=l.length:=by omega
   refine eK ?_;refine xR ?_;exact ⟨rfl,X⟩
def gQ (l:List EX) (w:wD):Ending->wD->Prop:=fun e w'=> ∃b:Bool,e = .returned (.bool b)/\(b=false->l.length<=110 /\ ∀e∈l,e.g.vars.length<=40/\e.g.procs.length<=70)/\Ext w w'
def Xr (l:List EX) (aa:l.length<=9223372036854775807) (Z : ∀e∈l,e.g.wf) (S:nP) (a:oA) (c:Nat) (w:wD) (f:EXs S w l a):Calls prog 11 #[.slice a l.length c] w (gQ l w):=by
 have X:=lN w;have f:=f.ltA;have HW:=kh Z;clear Z;refine Ae func11 ntmps11 rfl rfl ?_
 focus
  refine eK ?_;refine AF rfl (fun c1=>?_) (fun c1=>?_);refine eK ?_;refine xR ?_;rotate_left;refine Av (Ai (Al (cS (C1 Pa (cT ?_)))));rotate_left
 . exact ⟨_,rfl,(fun h=>by cases h),X⟩
 refine Ax ?_;refine AM (ι:=Nat) (fun j=>[(0,.slice a l.length c),(3,.int .i64 j)])
  (fun j w'=>j<=l.length/\(∀e∈l.take j,e.g.vars.length<=40/\e.g.procs.length<=70)/\EXs (· < w.heap.size) w' l a/\Ext w w') (fun j=>l.length-j) 0 sB ⟨kC _,(fun e F=>by simp at F),f,X⟩ ?_
 clear f X;rintro j w1 ⟨hj,L,f,X⟩;have HQ:=kh L;clear L;by_cases E:j<l.length
 . obtain ⟨kb,ko,rfl,-,hk⟩:=mq f Aa;obtain ⟨va,vc,pa,pc,ma,mc,N,O⟩:=hk j _ (kg E);have hx:=HW.out _ (kq E);have hn:(l[j].g.vars.length<=40/\l[j].g.procs.length<=70) -> ∀e∈l.take (j+1),e.g.vars.length<=40/\e.g.procs.length<=70:=fun h e F=>by
    rw [ky E,List.mem_append,lM] at F;rcases F with F|rfl
    . exact HQ.out e F
    . exact h
   clear hk;generalize l[j]=e at *;have HN:=kh hn;clear hn;have HB:=kh (fun w1 h=>gO e.g hx (· < w.heap.size) va vc pa pc ma mc w1 h);clear hx;have M:=O.g;unfold EX.cells at N
   focus
    refine eK ?_;refine Cf [_,_,_,_,_,_] Ab rfl rfl rfl N rfl rfl rfl (eQ rfl (HB.out _ Af) ?_);rintro _ ab ⟨ac,⟨⟨⟩,⟨U,V⟩⟩⟩;revert X f N O M;refine eY V ?_;intro ad X f N O M;refine cT ?_;refine E6 rfl (fun Y=>?_) (fun Y=>?_);refine eK ?_;refine xR ?_;rotate_left;refine Av (Ad (Ai (Ag (C1 Mv (C1 V7 (C1 Pa (Ah ?_)))))));rotate_left
   . exact ⟨_,rfl,(fun h=>by cases h),X⟩
   . exact Ay (j+1) sB ⟨Aa,HN.out (U Af),f,X⟩ Aa
 . obtain rfl:j=l.length:=by omega
   have L:=HQ.out;rw [kE] at L;refine eK ?_;refine xR ?_;exact ⟨_,rfl,(fun _=>⟨Aa,L⟩),X⟩
def GivenR (l:List EX) (w:wD):Ending->wD->Prop:=fun e w'=> ∃a c,e = .returned (.slice a l.length c)/\l.length<=c/\EXs (· < w'.heap.size) w' l a/\Ext w w'
def GivenR.ret {l:List EX} {w w':wD} {e:Ending} (h:GivenR l w e w') : ∃v,e = .returned v:=by
 obtain ⟨_,_,h,-⟩:=h;exact ⟨_,h⟩
def gR (S:nP) (l:List EX) (w:wD):Ending->wD->Prop:=fun e w'=> ∃a c,e = .returned (.slice a l.length c)/\l.length<=c/\OwnQ Gb w' S w.heap.size 36 (.slice a l.length c) l/\(l=[]->a=none/\c=0)/\(∀g,(lm a l.length c).ownBlock=some g->w.heap.size<=g)/\Ext w w'
def ZA (l:List EX) (am:l.length<=1000000) (S:nP) (a:oA) (c:Nat) (w:wD) (hS : ∀b,S b->b<w.heap.size) (M:EXs S w l a):Calls prog 16 #[.slice a l.length c] w (gR S l w):=by
 have X:=lN w;refine Ae func16 ntmps16 rfl rfl ?_;refine cS (C1 Pa (cN (C1 Pa (cT (Al (cS (C1 Pa (cT ?_))))))));refine Ax ?_;refine AM (ι:=Nat×oA×Nat) (fun x=>[(0,.slice a l.length c),(3,.slice x.2.1 (l.take x.1).length x.2.2),(4,.int .i64 x.1)])
  (fun x w'=>x.1<=l.length/\(x.1=0->x.2.1=none/\x.2.2=0)/\OwnQ Gb w' S w.heap.size 36 (.slice x.2.1 (l.take x.1).length x.2.2) (l.take x.1)/\EXs S w' l a/\Ext w w') (fun x=>l.length-x.1) (0,none,0) sB ⟨kC _,fun _=>⟨rfl,rfl⟩,OwnQ.nil,M,X⟩ ?_
 clear M X;rintro ⟨j,oa,oc⟩ w1 ⟨hj,E,f,M,X⟩;simp only at hj E f;have hz:=X.size;refine CW.sub (m:=[(0,.slice a l.length c),(3,.slice oa (l.take j).length oc),(4,.int .i64 j)]) ?_ sB;have L : ∀g,(lm oa (l.take j).length oc).ownBlock=some g->w.heap.size<=g/\g<w1.heap.size:=fun g h=>⟨f.ge h,f.lt h⟩
 have an:(l.take j).length=j:=by rw [kU];omega
 by_cases V:j<l.length
 . clear E;obtain ⟨kb,ko,rfl,aa,hk⟩:=mq M Aa;have ao:=hS kb aa;obtain ⟨va,vc,pa,pc,ma,mc,O,U⟩:=hk j _ (kg V);have Y:=ky V;clear hk;generalize l.take j=xs at *;generalize l[j]=e at *;have HO:=kh (fun w1=>jk e va vc pa pc ma mc w1);unfold EX.cells at O HO;refine eK ?_;refine cC rfl (HO.out _) ?_;rintro _ ap ⟨⟨⟩,ab⟩;revert X M f O U;refine eY ab ?_;intro aq X M f O U;refine Au (xS [_,_,_,_,_,_,_,_,_,_,_,_]) rfl ?_ aFh;rintro _ ar ⟨au,rfl,N,av⟩;have aw:=N.blk;have ac:=N.ext;have ae:=N.pos;have af:=N.size;revert X M f O U;refine eE ac ?_;intro X M f O U;refine Eg (R:=S) (sh:=Gb) Ab C9 rfl rfl rfl rfl BD rfl rfl rfl f aFh (Blk.row Af) ⟨_,_,_,_,_,_,rfl,EX.sits.wide Af (fun b h=>⟨h,fun e=>by have:=L _ e;have:=hS _ h;omega⟩)⟩ Aa Aa rfl ?_;rintro ag Z ah ai aj ak F;have al:=F.size;have X:=Ext.fr X F (fun k hk=>by have:=L _ hk;omega);have M:=EXs.fr M F (fun b hb hT=>by have:=L _ hT;have:=hS _ hb;(try dsimp only at hb);omega);clear f O;have U:=EX.sits.fr U F (fun b hb hT=>by have:=L _ hT;have:=hS _ hb;(try dsimp only at hb);omega);refine C1 Pa (Ah (Ad (Ai (Ag (C1 Mv (C1 V7 (C1 Pa (Ah ?_))))))));exact Ay (j+1,some ⟨_,0,none⟩,_) (by dsimp only;rw [Y];(refine Am rfl ?_;refine Am rfl ?_;refine Am rfl ?_;exact BB)) ⟨by (try dsimp only);omega,fun h=>by simp at h,by dsimp only;rw [Y];assumption,M,X⟩ (by (try dsimp only);omega)
 . obtain rfl:j=l.length:=by omega
   rw [kE] at f L;rw [kE];have ad:l=[]->oa=none/\oc=0:=fun h=>E (by rw [h];rfl)
   clear E;refine eK ?_;refine xR ?_;exact ⟨_,_,rfl,OwnQ.cap f,f,ad,fun g h=>(L g h).1,X⟩
def Xs (l:List EX) (f:l.length<=1000000) (S:nP) (a:oA) (c:Nat) (w:wD) (E:EXs S w l a):Calls prog 16 #[.slice a l.length c] w (GivenR l w):=
 (ZA l f (· < w.heap.size) a c w aFh E.ltA).mono fun _ _ ⟨a,c,h1,h2,h3,_,_,X⟩=>⟨a,c,h1,h2,OwnQ.exs h3 (fun b h=>Nat.lt_of_lt_of_le h X.size) (fun b _ h=>h),X⟩
def Jo {c:UInt8} : ∀ {a b:lB},c∉a->li (a++c::b) c=a.length
 | [],b,_=>by simp [li]
 | x::a,b,h=>by
  have h1 : ¬(x==c)=true:=by simp only [beq_iff_eq];intro e;exact h (by simp [e])
  have f:=Jo (a:=a) (b:=b) (c:=c) (fun e=>h (lx _ e));rw [kD,li,At h1,f,At (by simp only [beq_iff_eq];omega)];simp
def JH {c:UInt8} : ∀ {a:lB},c∉a->li a c = -1
 | [],_=>rfl
 | x::a,h=>by
  have h1 : ¬(x==c)=true:=by simp only [beq_iff_eq];intro e;exact h (by simp [e])
  rw [li,At h1,JH (fun e=>h (lx _ e))];rfl
def Ta {a b:lB} (h:(10:UInt8)∉a):EH (a++10::b)=(a,b,true):=by
 unfold EH Lib.cut;rw [Lib.index_one,Jo h,AH Aa];simp
def P4 {a:lB} (h:(10:UInt8)∉a):EH a=(a,[],false):=by
 unfold EH Lib.cut;rw [Lib.index_one,JH h,At Aa]
def UH {k:Nat} {a:lB} (h:(32:UInt8)∉a):Lib.splitK [32] 0 k a=[a]:=by
 cases k with
 | zero=>rfl
 | succ k=>rw [Lib.splitK,Lib.index_one,JH h,AH (by rfl)]
def UI {k:Nat} {a b:lB} (h:(32:UInt8)∉a):Lib.splitK [32] 0 (k+1) (a++32::b)=a::Lib.splitK [32] 0 k b:=by
 rw [Lib.splitK,Lib.index_one,Jo h,At (by simp only [beq_iff_eq];omega)];simp
def IG (x y:lB) (r:List lB):Lib.join (x::y::r) [32]=x++32::Lib.join (y::r) [32]:=by
 rw [Lib.join_cons,Lib.join_cons];simp [Lib.joinTail]
def Mr : ∀(f:List lB),f≠[]->(∀x∈f,(32:UInt8)∉x)->Lib.splitK [32] 0 (f.length-1) (Lib.join f [32])=f
 | [],h,_=>absurd rfl h
 | [x],_,h=>by rw [Lib.join_one];exact UH (h x A6)
 | x::y::r,_,h=>by
  rw [IG,show (x::y::r).length-1=((y::r).length-1)+1 from by simp,UI (h x A6),Mr (y::r) A6 (fun z E=>h z (lx _ E))]
def Oc : ∀(f:List lB),(∀x∈f,(32:UInt8)∉x)->(Lib.join f [32]).count 32=f.length-1
 | [],_=>rfl
 | [x],h=>by rw [Lib.join_one];exact List.count_eq_zero.2 (h x A6)
 | x::y::r,h=>by
  rw [IG,List.count_append,List.count_cons,Oc (y::r) (fun z E=>h z (lx _ E)),List.count_eq_zero.2 (h x A6)];simp
def UJ {f:List lB} (E:f≠[]) (h : ∀x∈f,(32:UInt8)∉x):B8 (Lib.join f [32])=f:=by
 unfold B8 Lib.split;rw [Lib.count_one,Oc f h];exact Mr f E h
def pre (acc:List Tok) (r:List Tok×Option Nat):List Tok×Option Nat:=match r.2 with
 | none=>(acc++r.1,none)
 | some p=>([],some p)
def cU (a b:List Tok) (r:List Tok×Option Nat):pre a (pre b r)=pre (a++b) r:=by
 rcases r with ⟨l,_|p⟩<;>simp [pre]
def LJ (s:lB) : ∀(k p:Nat) (acc:List Tok),CX k s p acc=pre acc (CX k s p [])
 | 0,p,acc=>by simp [CX,pre]
 | k+1,p,acc=>by
  rw [CX,CX];split
  . split
    . simp [pre]
    . rw [LJ s k _ (acc++_),LJ s k _ ([]++_),cU];simp
  . simp [pre]
def Od (s:lB) : ∀(k f p:Nat) (acc:List Tok),s.length-p<k->s.length-p<f->CX k s p acc=CX f s p acc
 | 0,_,_,_,h,_=>by omega
 | _,0,_,_,_,h=>by omega
 | k+1,f+1,p,acc,h,E=>by
  rw [CX,CX];split
  . split
    . rfl
    . exact Od s k f _ _ Aa Aa
  . rfl
def Gd (s:lB) (p:Nat):List Tok×Option Nat:=CX (s.length+1) s p []
def Ms (s:lB) (p:Nat):Tok:=⟨((Ar (s.drop p)).1:Nat),(s.drop p).take (Ar (s.drop p)).2,(p:Int)⟩
def Tb {s:lB} {p:Nat} (h:s.length<=p):Gd s p=([],none):=by
 unfold Gd;rw [CX,At Aa]
def Tc {s:lB} {p:Nat} (h:p<s.length) (f:(Ar (s.drop p)).2=0):Gd s p=([],some p):=by
 unfold Gd;rw [CX,AH h,AH f]
def K7 {s:lB} {p:Nat} (h:p<s.length) (f:(Ar (s.drop p)).2≠0):Gd s p=pre [Ms s p] (Gd s (p+(Ar (s.drop p)).2)):=by
 unfold Gd;rw [CX,AH h,At f,LJ];rw [Od s s.length (s.length+1) _ _ Aa Aa];rfl
def Jp (r:List Tok×Option Nat):List Tok×Option Nat:=match r.2 with
 | none=>(D8 r.1,none)
 | some p=>([],some p)
def Bn (s:lB) (p:Nat):List Tok×Option Nat:=Jp (Gd s p)
def Oe (t:Tok) (r:List Tok×Option Nat):Jp (pre [t] r)=if t.kind≠4/\t.kind≠5 then pre [t] (Jp r) else Jp r:=by
 rcases r with ⟨l,_|p⟩
 . by_cases h:t.kind≠4/\t.kind≠5
   . simp [pre,Jp,D8,List.filter_cons,h]
   . rw [At h];have:(decide (t.kind≠4)&&decide (t.kind≠5))=false:=by
      simp only [Bool.and_eq_false_iff,decide_eq_false_iff_not];omega
     simp only [pre,Jp,D8,List.singleton_append,List.filter_cons,this];simp
 . simp [pre,Jp]
def EL {s:lB} {p:Nat} (h:s.length<=p):Bn s p=([],none):=by
 unfold Bn;rw [Tb h];rfl
def JT {s:lB} {p:Nat} (h:p<s.length) (f:(Ar (s.drop p)).2=0):Bn s p=([],some p):=by
 unfold Bn;rw [Tc h f];rfl
def He {s:lB} {p:Nat} (h:p<s.length) (f:(Ar (s.drop p)).2≠0) (E:(Ar (s.drop p)).1≠4) (F:(Ar (s.drop p)).1≠5) :
 Bn s p=pre [Ms s p] (Bn s (p+(Ar (s.drop p)).2)):=by
 unfold Bn;rw [K7 h f,Oe,AH];constructor<;>simp only [Ms]<;>omega
def Fq {s:lB} {p:Nat} (h:p<s.length) (f:(Ar (s.drop p)).2≠0) (E:(Ar (s.drop p)).1=4\/(Ar (s.drop p)).1=5) :
 Bn s p=Bn s (p+(Ar (s.drop p)).2):=by
 unfold Bn;rw [K7 h f,Oe,At];simp only [Ms];omega
def MQ {s:lB} {p:Nat} (h:p<s.length):s.drop p=s[p]::s.drop (p+1):=lh h
def Td {c:UInt8} (h:Dn c=true):CG c=false/\B5 c=false/\c≠35:=by
 simp only [Dn,Bool.or_eq_true,decide_eq_true_eq] at h;refine ⟨?_,?_,?_⟩
 . simp only [CG,Bool.and_eq_false_iff,decide_eq_false_iff_not];omega
 . simp only [B5,Bool.and_eq_false_iff,decide_eq_false_iff_not];omega
 . rintro rfl;exact absurd h Ao
def GP {c:UInt8} {r:lB} (h:Dn c=true):Ar (c::r)=(4,1+Es Dn r):=by
 obtain ⟨h1,f,-⟩:=Td h;simp [Ar,h,h1,f,Es,List.takeWhile_cons];omega
def OQ {r:lB}:Ar (35::r)=(5,1+Es M2 r):=by
 have h1:CG 35=false:=by decide
 have f:B5 35=false:=by decide
 have h:Dn 35=false:=by decide
 have E:M2 35=true:=by decide
 simp [Ar,h1,f,h,E,Es,List.takeWhile_cons];omega
def P5 {p:UInt8->Bool} {s:lB} (h : ∀c∈s.head?,p c=false):Es p s=0:=by
 cases s with
 | nil=>rfl
 | cons c r=>simp [Es,List.takeWhile_cons,h c A6]
def MG {s:lB} {p:Nat} (h:p<s.length) (L:Dn s[p]=true):Bn s p=Bn s (p+1):=by
 have e:Ar (s.drop p)=(4,1+Es Dn (s.drop (p+1))):=by rw [MQ h];exact GP L
 rw [Fq h (by rw [e];simp) (by rw [e];simp),e];by_cases h1:p+1<s.length
 . by_cases f:Dn s[p+1]=true
   . have E:Ar (s.drop (p+1))=(4,1+Es Dn (s.drop (p+1+1))):=by rw [MQ h1];exact GP f
     rw [Fq h1 (by rw [E];simp) (by rw [E];simp),E];have:Es Dn (s.drop (p+1))=1+Es Dn (s.drop (p+1+1)):=by
      rw [MQ h1];simp only [Es,List.takeWhile_cons,f,if_true,kf];omega
     rw [this];congr 1;omega
   . rw [P5 (s:=s.drop (p+1))];rw [MQ h1];intro c F;simp only [List.head?_cons,Option.mem_def,kz] at F;rw [<-F];simpa using f
 . rw [P5 (s:=s.drop (p+1))];rw [List.drop_eq_nil_of_le Aa];simp
def Tok.sh (d:Nat) (t:Tok):Tok:=⟨t.kind,t.text,t.pos+d⟩
def Xt (d:Nat) (r:List Tok×Option Nat):List Tok×Option Nat:=(r.1.map (Tok.sh d),r.2.map (· + d))
def cV (d:Nat) (t:Tok) (r:List Tok×Option Nat):Xt d (pre [t] r)=pre [t.sh d] (Xt d r):=by
 obtain ⟨l,e⟩:=r;cases e<;>simp [Xt,pre]
def jl (r:List Tok×Option Nat):Xt 0 r=r:=by
 obtain ⟨l,e⟩:=r;have:l.map (Tok.sh 0)=l:=by
  conv=>rhs;rw [<-List.map_id l]
  congr 1;funext t;cases t;simp [Tok.sh]
 cases e<;>simp [Xt,this]
def cW (a b:Nat) (r:List Tok×Option Nat):Xt a (Xt b r)=Xt (b+a) r:=by
 obtain ⟨l,e⟩:=r;cases e<;>simp [Xt,Tok.sh,Int.add_assoc,Nat.add_assoc]
def UK (a u:lB) (p:Nat):(a++u).drop (a.length+p)=u.drop p:=by
 rw [List.drop_append];simp
def IS (a u:lB) : ∀(m p:Nat),u.length-p<=m->Bn (a++u) (a.length+p)=Xt a.length (Bn u p):=by
 intro m
 induction m with
 | zero=>
  intro p h;rw [EL (by simp;omega),EL Aa];rfl
 | succ m U=>
  intro p h;by_cases M:p<u.length
  . have N:a.length+p<(a++u).length:=by simp;omega
    have f:=UK a u p;by_cases F:(Ar (u.drop p)).2=0
    . rw [JT N (by rw [f];exact F),JT M F];simp [Xt,Nat.add_comm]
    . have O:=U (p+(Ar (u.drop p)).2) Aa;by_cases L:(Ar (u.drop p)).1=4\/(Ar (u.drop p)).1=5
      . rw [Fq N (by rw [f];exact F) (by rw [f];exact L),Fq M F L,f,Nat.add_assoc];exact O
      . have E:(Ar (u.drop p)).1≠4/\(Ar (u.drop p)).1≠5:=⟨fun e=>L (kj e),fun e=>L (kp e)⟩
        rw [He N (by rw [f];exact F) (by rw [f];exact E.1) (by rw [f];exact E.2),He M F E.1 E.2,f,Nat.add_assoc,O,cV];congr 2;unfold Ms Tok.sh;rw [f];simp [Int.add_comm]
  . rw [EL (by simp;omega),EL Aa];rfl
def Of (c:UInt8) (u:lB) (p:Nat):Bn (c::u) (1+p)=Xt 1 (Bn u p):=IS [c] u _ p (kv _)
def jm (c:UInt8):Prop:=Dn c=true\/c=35
def cX {c:UInt8} (h:jm c):FK c=false/\B5 c=false/\singles.contains c=false/\c≠58/\c≠61/\c≠62/\c≠38/\c≠124:=by
 rcases h with h|rfl
 . have:c.toNat=32\/c.toNat=9\/c.toNat=13\/c.toNat=10:=by
    simp only [Dn,Bool.or_eq_true,decide_eq_true_eq] at h;omega
   have:c=32\/c=9\/c=13\/c=10:=by
    rcases this with h|h|h|h
    . exact kj (UInt8.toNat_inj.1 h)
    . exact kp (kj (UInt8.toNat_inj.1 h))
    . exact kp (kp (kj (UInt8.toNat_inj.1 h)))
    . exact kp (kp (kp (UInt8.toNat_inj.1 h)))
   rcases this with rfl|rfl|rfl|rfl<;>decide
 . decide
def Te {p:UInt8->Bool} {c:UInt8} (h:p c=false) (r u:lB):Es p (r++c::u)=Es p r:=by
 unfold Es
 induction r with
 | nil=>simp [h]
 | cons x r f=>
  simp only [kD,List.takeWhile_cons];split
  . simp [f]
  . rfl
def Ri {c d:UInt8} (h:pairs.contains [c,d]=true):d=61\/d=38\/d=124:=by
 simp only [pairs,List.contains_cons,List.contains_nil,Bool.or_false,Bool.or_eq_true,beq_iff_eq,kQ,and_true] at h;rcases h with ⟨_,rfl⟩|⟨_,rfl⟩|⟨_,rfl⟩|⟨_,rfl⟩|⟨_,rfl⟩|⟨_,rfl⟩|⟨_,rfl⟩|⟨_,rfl⟩|⟨_,rfl⟩|⟨_,rfl⟩<;>simp
def cY {s:lB} (h : ¬ 65536<s.length) (h1:(Bn s 0).2=none):Cp s=((Bn s 0).1,⟨0,0,0⟩):=by
 unfold Bn Gd at *;unfold Cp G7;rw [At h];generalize CX (s.length+1) s 0 []=r at *;obtain ⟨l,e⟩:=r;cases e with
 | none=>rfl
 | some q=>simp [Jp] at h1
def Xu (c:UInt8):pairs.contains [c]=false:=by
 cases hh:pairs.contains [c]
 . rfl
 . simp [pairs] at hh
inductive Pc where
 | tk (t:lB):Pc
 | sp (s:lB):Pc
def flat:List Pc->lB
 | []=>[]
 | .tk t::r=>t++flat r
 | .sp s::r=>s++flat r
def toks:List Pc->CP
 | []=>[]
 | .tk t::r=>t::toks r
 | .sp _::r=>toks r
def Bq : ∀(a b:List Pc),flat (a++b)=flat a++flat b
 | [],b=>rfl
 | .tk t::r,b=>by simp only [kD,flat,Bq r b,kA]
 | .sp t::r,b=>by simp only [kD,flat,Bq r b,kA]
def Br : ∀(a b:List Pc),toks (a++b)=toks a++toks b
 | [],b=>rfl
 | .tk t::r,b=>by simp only [kD,toks,Br r b]
 | .sp t::r,b=>by simp only [kD,toks,Br r b]
structure TokT (t:lB):Prop where
 ne:t≠[]
 len:(Ar t).2=t.length
 kind:(Ar t).1=1\/(Ar t).1=2\/(Ar t).1=3
structure Adj (t:lB) (c:UInt8):Prop where
 word:(Ar t).1=1->FK c=false
 num:(Ar t).1=2->B5 c=false
 sign:(Ar t).1=3->c≠61/\c≠62/\c≠38/\c≠124
def cZ {t:lB} {c:UInt8} (h:jm c):Adj t c:=by
 obtain ⟨h1,M,-,-,E,F,L,f⟩:=cX h;exact ⟨fun _=>h1,fun _=>M,fun _=>⟨E,F,L,f⟩⟩
def Tf {c:UInt8} (f:c≠61) (E:c≠62) (F:c≠38) (h:c≠124) (r u:lB) (O:r≠[]):FL (r++c::u)=FL r:=by
 cases r with
 | nil=>exact absurd rfl O
 | cons x r=>
  cases r with
  | nil=>
   have U:pairs.contains [x,c]=false:=by
    cases hh:pairs.contains [x,c]
    . rfl
    . rcases Ri hh with e|e|e
      . exact absurd e f
      . exact absurd e F
      . exact absurd e h
   have L:=Xu x;have M:List.isPrefixOf [60,61,62] ([x]++c::u)=false:=by
    simp only [kD,lk,List.isPrefixOf];have:(61==c)=false:=by simpa using fun e:61=c=>f e.symm
    simp [this]
   have N:List.isPrefixOf [60,61,62] [x]=false:=by simp [List.isPrefixOf]
   unfold FL;rw [M,N];simp only [kD,lk,lo,List.take_zero,List.take_nil,U,L];rfl
  | cons y r=>
   have M:List.isPrefixOf [60,61,62] ((x::y::r)++c::u)=List.isPrefixOf [60,61,62] (x::y::r):=by
    cases r with
    | nil=>
     simp only [kD,lk,List.isPrefixOf];have:(62==c)=false:=by simpa using fun e:62=c=>E e.symm
     simp [this]
    | cons z r=>simp [List.isPrefixOf]
   unfold FL;rw [M];rfl
def Rj {t:lB} {c:UInt8} (V:TokT t) (h:Adj t c) (u:lB):Ar (t++c::u)=Ar t:=by
 obtain ⟨X,Z,L⟩:=V;cases t with
 | nil=>exact absurd rfl X
 | cons x r=>
  by_cases h1:CG x=true
  . have M:=h.word (by simp [Ar,h1]);have e:=Te M (x::r) u;simp only [kD] at e ⊢;simp only [Ar,h1,if_true,e]
  . have f:CG x=false:=by simpa using h1
    by_cases N:B5 x=true
    . have M:=h.num (by simp [Ar,f,N]);have e:=Te M (x::r) u;simp only [kD] at e ⊢;simp only [Ar,f,N,if_true,if_false,lj,e]
    . have E:B5 x=false:=by simpa using N
      by_cases U:Dn x=true
      . exfalso;rw [GP U] at L;simp at L
      . have F:Dn x=false:=by simpa using U
        by_cases O:x=35
        . exfalso;subst O;rw [OQ] at L;simp at L
        . obtain ⟨a,b,Y,d⟩:=h.sign (by simp [Ar,f,E,F,O]);have e:=Tf a b Y d (x::r) u A6;simp only [kD] at e ⊢;simp only [Ar,f,E,F,O,if_false,lj,e]
def wf:Option lB->List Pc->Prop
 | _,[]=>True
 | p,.sp s::r=>(∀c∈s,Dn c=true)/\wf (if s.isEmpty then p else none) r
 | p,.tk t::r=>TokT t/\(∀t0∈p,∀c∈t.head?,Adj t0 c)/\wf (some t) r
def B9:Option lB->List Pc->Option lB
 | p,[]=>p
 | p,.sp s::r=>B9 (if s.isEmpty then p else none) r
 | _,.tk t::r=>B9 (some t) r
def DM : ∀(a b:List Pc) (p:Option lB),wf p (a++b)↔wf p a/\wf (B9 p a) b
 | [],b,p=>by simp [wf,B9]
 | .sp s::r,b,p=>by simp only [kD,wf,B9,DM r b,and_assoc]
 | .tk t::r,b,p=>by simp only [kD,wf,B9,DM r b,and_assoc]
def C6 : ∀(a b:List Pc) (p:Option lB),B9 p (a++b)=B9 (B9 p a) b
 | [],b,p=>rfl
 | .sp s::r,b,p=>by simp only [kD,B9,C6 r b]
 | .tk t::r,b,p=>by simp only [kD,B9,C6 r b]
def VH : ∀(r:List Pc) (t:lB) (c:UInt8) (u:lB),wf (some t) r->flat r=c::u->Adj t c
 | [],t,c,u,_,h=>by cases h
 | .sp s::r,t,c,u,f,h=>by
  cases s with
  | nil=>exact VH r t c u f.2 h
  | cons d s=>
   simp only [flat,kD,kQ] at h;rw [<-h.1];exact cZ (kj (f.1 d A6))
 | .tk t'::r,t,c,u,f,h=>by
  cases t' with
  | nil=>exact absurd rfl f.1.ne
  | cons d s=>
   simp only [flat,kD,kQ] at h;rw [<-h.1];exact f.2.1 t rfl d rfl
def Mt : ∀(s u:lB),(∀c∈s,Dn c=true)->Bn (s++u) 0=Xt s.length (Bn u 0)
 | [],u,_=>(jl _).symm
 | c::s,u,h=>by
  have h1:=Mt s u (fun d E=>h d (by simp [E]));rw [kD,MG (s:=c::(s++u)) (p:=0) A6 (h c A6)];have f:=Of c (s++u) 0;rw [Nat.add_comm] at f;rw [f,h1,cW];rfl
def LK : ∀(L:List Pc) (p:Option lB),wf p L -> ∃us,Bn (flat L) 0=(us,none)/\Mn us=toks L
 | [],p,_=>⟨[],EL (kC _),rfl⟩
 | .sp s::r,p,h=>by
  obtain ⟨us,h1,O⟩:=LK r _ h.2;refine ⟨us.map (Tok.sh s.length),?_,?_⟩
  . show Bn (s++flat r) 0=_;rw [Mt s _ h.1,h1];rfl
  . simp only [toks,<-O];simp [Mn,Tok.sh]
 | .tk t::r,p,h=>by
  obtain ⟨us,h1,O⟩:=LK r _ h.2.2;have E:Ar (t++flat r)=Ar t:=by
   cases hr:flat r with
   | nil=>simp
   | cons c u=>exact Rj h.1 (VH r t c u h.2.2 hr) u
  have f:(t++flat r).drop 0=t++flat r:=rfl;have U:=h.1.len;have F:t.length≠0:=fun e=>h.1.ne (List.eq_nil_of_length_eq_zero e)
  have M:(Ar t).1≠4/\(Ar t).1≠5:=by rcases h.1.kind with e|e|e<;>rw [e]<;>decide
  have V:=He (s:=t++flat r) (p:=0) (by simp;omega) (by rw [f,E,U];exact F) (by rw [f,E];exact M.1) (by rw [f,E];exact M.2);have N:=IS t (flat r) _ 0 (kv _);rw [Nat.add_zero] at N;have X:(Ms (t++flat r) 0).text=t:=by unfold Ms;rw [f,E,U];simp
  refine ⟨Ms (t++flat r) 0::us.map (Tok.sh t.length),?_,?_⟩
  . show Bn (t++flat r) 0=_;rw [V,f,E,U,Nat.zero_add,N,h1];rfl
  . simp only [toks,<-O];simp [Mn,Tok.sh,X]
def Cy {m:lB} (h:AS m=true):TokT m/\(Ar m).1=1:=by
 simp only [AS,ke,beq_iff_eq,Bool.not_eq_true',decide_eq_true_eq] at h;obtain ⟨⟨⟨⟨h1,F⟩,f⟩,E⟩,L⟩:=h;refine ⟨⟨?_,E,kj f⟩,f⟩;rintro rfl;simp at h1
def G2 {m:lB} (h:AS m=true) : ∀c∈m.head?,CG c=true:=by
 intro c E;cases m with
 | nil=>cases E
 | cons x r=>
  have:x=c:=by simpa using E
  subst this;have f:=(Cy h).2;cases hl:CG x
  . exfalso;simp only [Ar,hl,if_false,lj] at f;split at f
    . simp at f
    . split at f
      . simp at f
      . split at f<;>simp at f
  . rfl
def K8 (u:Nat):A7 (Lib.decDigits u)=u/\(∀c∈Lib.decDigits u,B5 c=true)/\Lib.decDigits u≠[]:=by
 induction u using Nat.strongRecOn with
 | _ u M=>
  have F : ∀k,k<10->(UInt8.ofNat (48+k)).toNat=48+k:=fun k L=>by rw [UInt8.toNat_ofNat'];omega
  have f : ∀k,k<10->B5 (UInt8.ofNat (48+k))=true:=fun k L=>by
   simp only [B5,F k L,ke,decide_eq_true_eq];omega
  rw [Lib.decDigits];split
  . rename_i h;refine ⟨?_,?_,A6⟩
    . unfold A7;simp only [List.foldl_cons,List.foldl_nil,F u h];omega
    . intro c E;have:c=UInt8.ofNat (48+u):=by simpa using E
      subst this;exact f u h
  . rename_i h;obtain ⟨h1,N,O⟩:=M (u/10) Aa;refine ⟨?_,?_,A6⟩
    . unfold A7 at *;rw [List.foldl_append,h1];simp only [List.foldl_cons,List.foldl_nil,F (u%10) Aa];omega
    . intro c E;rcases List.mem_append.1 E with E|E
      . exact N c E
      . have:c=UInt8.ofNat (48+u%10):=by simpa using E
        subst this;exact f _ Aa
def Ib {n:Int} (h:0<=n):Lib.itoa n=Lib.decDigits n.toNat:=by unfold Lib.itoa;rw [At Aa]
def P6 {p:UInt8->Bool} : ∀(s:lB),(∀c∈s,p c=true)->Es p s=s.length
 | [],_=>rfl
 | c::r,h=>by
  have:=P6 r (fun d f=>h d (by simp [f]));unfold Es at *;rw [List.takeWhile_cons,AH (h c A6),kf,kf,this]
def Og {f:lB} (E:f≠[]) (h : ∀c∈f,B5 c=true):TokT f/\(Ar f).1=2:=by
 have:Ar f=(2,f.length):=by
  cases f with
  | nil=>exact absurd rfl E
  | cons c r=>
   have F:=h c A6;have L:CG c=false:=by
    cases L:CG c
    . rfl
    . rw [KS c L] at F;cases F
   have M:=P6 (p:=B5) (c::r) h;simp only [Ar,L,F,if_true,if_false,lj,M]
 exact ⟨⟨E,by rw [this],by rw [this];exact kp (kj rfl)⟩,by rw [this]⟩
def pw (b:Bool) (L:List Pc):List Pc:=if b then .tk [40]::(L++[.tk [41]]) else L
def VI (b:Bool) (L:List Pc):flat (pw b L)=wrap (flat L) b:=by
 unfold pw wrap;cases b
 . rfl
 . simp only [if_true,flat,Bq,ll];simp
def dA (b:Bool) (L:List Pc):toks (pw b L)=if b then [40]::(toks L++[[41]]) else toks L:=by
 unfold pw;cases b
 . rfl
 . simp only [if_true,toks,Br]
def Oh (p:Option lB):Prop:= ∀t∈p,(Ar t).1=3
def Hf (t:lB):Prop:=Adj t 41/\Adj t 93/\Adj t 59/\Adj t 44
def El {m:lB} (h:(Ar m).1=1):Hf m:=by
 refine ⟨?_,?_,?_,?_⟩<;>exact ⟨fun _=>Ao,fun e=>(by rw [h] at e;cases e),fun e=>(by rw [h] at e;cases e)⟩
def Oi {m:lB} (h:(Ar m).1=2):Hf m:=by
 refine ⟨?_,?_,?_,?_⟩<;>exact ⟨fun e=>(by rw [h] at e;cases e),fun _=>Ao,fun e=>(by rw [h] at e;cases e)⟩
def DO {m:lB} (h:(Ar m).1=3):Hf m:=by
 refine ⟨?_,?_,?_,?_⟩<;>exact ⟨fun e=>(by rw [h] at e;cases e),fun e=>(by rw [h] at e;cases e),fun _=>Ao⟩
def Em {t:lB} {c:UInt8} (h:(Ar t).1=3) (f:c≠61/\c≠62/\c≠38/\c≠124):Adj t c:=⟨fun e=>(by rw [h] at e;cases e),fun e=>(by rw [h] at e;cases e),fun _=>f⟩
def FY {c:UInt8} (h:CG c=true):c≠61/\c≠62/\c≠38/\c≠124:=by
 simp only [CG,ke,decide_eq_true_eq] at h;refine ⟨?_,?_,?_,?_⟩<;>(rintro rfl;simp at h)
def Oj {c:UInt8} (h:B5 c=true):c≠61/\c≠62/\c≠38/\c≠124:=by
 simp only [B5,ke,decide_eq_true_eq] at h;refine ⟨?_,?_,?_,?_⟩<;>(rintro rfl;simp at h)
def A3 {t:lB} (h:(!t.isEmpty&&((Ar t).2==t.length)&&(((Ar t).1==1)||((Ar t).1==3)))=true):TokT t:=by
 simp only [ke,Bool.or_eq_true,beq_iff_eq,Bool.not_eq_true'] at h;obtain ⟨⟨h1,E⟩,f⟩:=h;refine ⟨by rintro rfl;simp at h1,E,?_⟩;rcases f with f|f
 . exact kj f
 . exact kp (kp f)
def Ok {k:Int} (f:6<=k) (h1:k<=23):TokT (Cl k)/\(Ar (Cl k)).1=3:=by
 have:k=6\/k=7\/k=8\/k=9\/k=10\/k=11\/k=12\/k=13\/k=14\/k=15\/k=16\/k=17\/k=18\/k=19\/k=20\/k=21\/k=22\/k=23:=by omega
 rcases this with rfl|rfl|rfl|rfl|rfl|rfl|rfl|rfl|rfl|rfl|rfl|rfl|rfl|rfl|rfl|rfl|rfl|rfl<;>exact ⟨A3 Ao,Ao⟩
structure Nice (L:List Pc):Prop where
 wf : ∀p,Oh p->wf p L
 fin : ∀p,∃t,B9 p L=some t/\Hf t
def II {t:lB} (h:(Ar t).1=3):Oh (some t):=fun u f=>by
 have:t=u:=by simpa using f
 rw [<-this];exact h
def DA:Oh none:=fun u f=>by cases f
def Nice.par {L:List Pc} (h:Nice L):Nice (.tk [40]::(L++[.tk [41]])):=by
 have E:TokT [40]:=A3 Ao;have F:TokT [41]:=A3 Ao;refine ⟨fun p M=>⟨E,fun t N c f=>?_,?_⟩,fun p=>?_⟩
 . have:c=40:=by simpa using f.symm
   subst this;exact Em (M t N) Ao
 . rw [DM];refine ⟨h.wf _ (II Ao),?_⟩;obtain ⟨t,e,O⟩:=h.fin (some [40]);rw [e];exact ⟨F,fun u U c f=>by
    have:c=41:=by simpa using f.symm
    have:t=u:=by simpa using U
    subst_vars;exact O.1,trivial⟩
 . refine ⟨[41],?_,DO Ao⟩;simp only [B9,C6]
def Nice.pw {L:List Pc} (h:Nice L) (b:Bool):Nice (pw b L):=by
 unfold Bk.pw;cases b
 . exact h
 . exact h.par
def Tg {t:lB} (h:TokT t) (E : ∀c∈t.head?,c≠61/\c≠62/\c≠38/\c≠124) (f:Hf t):Nice [.tk t]:=
 ⟨fun p F=>⟨h,fun u L c f=>Em (F u L) (E c f),trivial⟩,fun p=>⟨t,rfl,f⟩⟩
def dB {t:lB} {q:UInt8->Prop} (h : ∀c∈t,q c) : ∀c∈t.head?,q c:=fun c f=>by
 cases t with
 | nil=>cases f
 | cons x r=>
  have:x=c:=by simpa using f
  subst this;exact h x A6
def Gj {n:Int} (h:0<=n) (h1:n<=1000000000):H5 (Lib.itoa n)=(n,true):=by
 have f:=K8 n.toNat;have E:=I8 (Lib.decDigits n.toNat) f.2.2 f.2.1;rw [f.1,AH Aa] at E;have F:=Ib h;unfold H5;rw [F,E];have L:((n.toNat:Nat):Int)=n:=by omega
 simp only [L];rw [AH ⟨⟨h,h1⟩,F⟩]
def FH {n:Int} (f:0<=n) : ∀c∈Lib.itoa n,B5 c=true:=by
 rw [Ib f];exact (K8 n.toNat).2.1
def Ic {s:lB} (h : ∀c∈s,B5 c=true):(32:UInt8)∉s/\(10:UInt8)∉s:=
 ⟨fun e=>by have:=h _ e;revert this;decide,fun e=>by have:=h _ e;revert this;decide⟩
def JU {α:Type} {p:α->Bool} : ∀ {l:List α},(l.takeWhile p).length=l.length -> ∀c∈l,p c=true
 | [],_,_,h=>by cases h
 | x::l,h,c,f=>by
  rw [List.takeWhile_cons] at h;split at h
  . rename_i E;rcases kF.1 f with rfl|f
    . exact E
    . exact JU (by simpa using h) c f
  . simp at h
def P7 {s:lB} (h:AS s=true) : ∀c∈s,FK c=true:=by
 simp only [AS,ke,beq_iff_eq] at h;obtain ⟨⟨⟨⟨h1,-⟩,f⟩,E⟩,-⟩:=h;cases s with
 | nil=>intro c L;cases L
 | cons x r=>
  by_cases F:CG x=true
  . have e:Ar (x::r)=(1,Es FK (x::r)):=by simp only [Ar,AH F]
    rw [e] at E;exact JU E
  . exfalso;simp only [Ar,At F] at f;split at f
    . cases f
    . split at f
      . cases f
      . split at f<;>cases f
def dC {s:lB} (h:AS s=true):(32:UInt8)∉s/\(10:UInt8)∉s:=
 ⟨fun e=>by have:=P7 h _ e;revert this;decide,fun e=>by have:=P7 h _ e;revert this;decide⟩
def LL : ∀(E:List lB),(∀x∈E,(10:UInt8)∉x)->(10:UInt8)∉Lib.join E [32]
 | [],_=>by simp [Lib.join_nil]
 | [x],h=>by rw [Lib.join_one];exact h x A6
 | x::y::r,h=>by
  rw [IG];intro f;rcases List.mem_append.1 f with f|f
  . exact h x A6 f
  . rcases kF.1 f with f|f
    . revert f;decide
    . exact LL (y::r) (fun z F=>h z (lx _ F)) f
def Ol (e:EX) (n:Int):Ec e n=[[101,120,101,114,99,105,115,101],e.name,[112,111,105,110,116,115],Lib.itoa e.points,[102,117,101,108],Lib.itoa e.fuel,[118,97,108,117,101],Lib.itoa e.box.v,[108,101,110,103,116,104],Lib.itoa e.box.l,[105,110,112,117,116],Lib.itoa e.box.i,[108,105,110,101,115],Lib.itoa n]:=rfl
def Om {e:EX} {n:Int} (h:e.valid) (F:0<=n) : ∀x∈Ec e n,(32:UInt8)∉x/\(10:UInt8)∉x:=by
 obtain ⟨⟨f,h1,N⟩,-,-,L,-⟩:=h;have M:=Kc L;unfold BoxV.ok at M;rw [Ol];intro x E;simp only [kF,List.mem_nil_iff,or_false] at E;rcases E with rfl|rfl|rfl|rfl|rfl|rfl|rfl|rfl|rfl|rfl|rfl|rfl|rfl|rfl
 . decide
 . exact dC f
 . decide
 . exact Ic (FH Aa)
 . decide
 . exact Ic (FH Aa)
 . decide
 . exact Ic (FH Aa)
 . decide
 . exact Ic (FH Aa)
 . decide
 . exact Ic (FH Aa)
 . decide
 . exact Ic (FH F)
def ZB {e:EX} {n:Int} (h:e.valid) (f:0<=n) (r:lB):EH (H4 e n++r)=(Lib.join (Ec e n) [32],r,true):=by
 unfold H4;rw [kA];exact Ta (LL _ (fun x E=>(Om h f x E).2))
def On {e:EX} {n:Int} (h:e.valid) (f:0<=n):B8 (Lib.join (Ec e n) [32])=Ec e n:=
 UJ (by rw [Ol];simp) (fun x E=>(Om h f x E).1)
def VJ {e:EX} {n:Int} (h:e.valid) (X:0<=n) (f:n<=1000000000):PT (Ec e n)/\Zt (Ec e n) e.g=e/\DD (Ec e n) 5=n:=by
 obtain ⟨⟨E,h1,h2⟩,-,-,Y,-⟩:=h;have Z:=Kc Y;unfold BoxV.ok at Z;have i0:=Gj (n:=e.points) Aa Aa;have F:=Gj (n:=e.fuel) Aa Aa;have i2:=Gj (n:=e.box.v) Aa Aa;have i3:=Gj (n:=e.box.l) Aa Aa;have i4:=Gj (n:=e.box.i) Aa Aa;have i5:=Gj X f;have L:(Ec e n).getD 3 []=Lib.itoa e.points:=rfl;have M:(Ec e n).getD 5 []=Lib.itoa e.fuel:=rfl;have N:(Ec e n).getD 7 []=Lib.itoa e.box.v:=rfl;have O:(Ec e n).getD 9 []=Lib.itoa e.box.l:=rfl;have U:(Ec e n).getD 11 []=Lib.itoa e.box.i:=rfl;have V:(Ec e n).getD 13 []=Lib.itoa n:=rfl;refine ⟨⟨rfl,rfl,E,fun i hi=>?_⟩,?_,?_⟩
 . rcases (show i=0\/i=1\/i=2\/i=3\/i=4\/i=5 by omega) with rfl|rfl|rfl|rfl|rfl|rfl
   . exact ⟨rfl,by rw [show 3+2*0=3 from rfl,L,i0]⟩
   . exact ⟨rfl,by rw [show 3+2*1=5 from rfl,M,F]⟩
   . exact ⟨rfl,by rw [show 3+2*2=7 from rfl,N,i2]⟩
   . exact ⟨rfl,by rw [show 3+2*3=9 from rfl,O,i3]⟩
   . exact ⟨rfl,by rw [show 3+2*4=11 from rfl,U,i4]⟩
   . exact ⟨rfl,by rw [show 3+2*5=13 from rfl,V,i5]⟩
 . unfold Zt DD;rw [show 3+2*0=3 from rfl,show 3+2*1=5 from rfl,show 3+2*2=7 from rfl,show 3+2*3=9 from rfl,show 3+2*4=11 from rfl,L,M,N,O,U,i0,F,i2,i3,i4];rfl
 . unfold DD;rw [show 3+2*5=13 from rfl,V,i5]
def P8 (t:lB):Prop:=t=[] \/ ∃u,t=u++[10]
def P9 : ∀(n:Nat) (u:lB),u.length=n -> ∃t v,u=t++v/\(10:UInt8)∉v/\P8 t
 | 0,u,h=>⟨[],[],by simp [List.length_eq_zero_iff.1 h],A6,kj rfl⟩
 | n+1,u,h=>by
  have f:u≠[]:=by intro e;rw [e] at h;cases h
  obtain ⟨t,v,h1,M,N⟩:=P9 n u.dropLast (by rw [List.length_dropLast];omega);have F:=(List.dropLast_concat_getLast f).symm;by_cases L:u.getLast f=10
  . rw [L] at F;exact ⟨u,[],A6,A6,kp ⟨_,F⟩⟩
  . refine ⟨t,v++[u.getLast f],?_,?_,N⟩
    . rw [<-kA,<-h1];exact F
    . intro E;rcases List.mem_append.1 E with E|E
      . exact M E
      . rw [lM] at E;exact L E.symm
def Xv (n:Nat) : ∀(t r:lB),t.length<=n->P8 t->ID (t++r) (Lib.countByte t 10)=some t.length:=by
 induction n with
 | zero=>
  intro t r h f;rcases f with rfl|⟨u,rfl⟩
  . rfl
  . simp at h
 | succ n E=>
  intro t r h f;rcases f with rfl|⟨u,rfl⟩
  . rfl
  obtain ⟨t,v,rfl,F,f⟩:=P9 _ u rfl;have L:t.length<=n:=by simp only [j9,kf,ki] at h;omega
  have E:=E t (v++10::r) L f;have M:Lib.countByte (t++v++[10]) 10=Lib.countByte t 10+1:=by
   unfold Lib.countByte;rw [List.count_append,List.count_append,List.count_eq_zero.2 F];rfl
  have N:t++v++[10]++r=t++(v++10::r):=by simp
  rw [M,N,ID,E,Option.bind_some,List.drop_left,Jo F,At Aa];simp only [Int.toNat_natCast,j9,kf,ki]
def UL {t r:lB} (h:P8 t):DL (t++r) (Lib.countByte t 10)=(t,r,true):=by
 unfold DL;rw [Xv _ t r (kv _) h];simp only [List.take_left,List.drop_left]
def jI:PS:=⟨0,0,0⟩
def gS {ts:List Tok}:rem ts jI=Mn ts:=rfl
def VK (ts:List Tok):(Mn ts).length=ts.length:=by simp [Mn]
def Nd.pcs:Nd->List Pc
 | .mk k n s l=>
  if k=1 then [.tk (Lib.itoa n)] else if k=2 then [.tk s]
  else if k=3 then match l with|[x]=>.tk s::.tk [91]::(x.pcs++[.tk [93]])|_=>[]
  else if k=4 then [.tk [116,111,112],.tk [40],.tk s,.tk [41]] else if k=5 then [.tk [115,105,122,101],.tk [40],.tk s,.tk [41]]
  else if k=6\/k=7 then match l with|[x]=>.tk (Cl k)::pw (CD x.kind) x.pcs|_=>[]
  else match l with
   | [x,y]=>pw (ER x.kind k) x.pcs++(.sp [32]::.tk (Cl k)::.sp [32]::pw (Fw y.kind k) y.pcs)
   | _=>[]
def ZC (N:Nat) : ∀t:Nd,t.size<N->t.isExpr=true->Nice t.pcs:=by
 induction N with
 | zero=>intro t h;omega
 | succ N Z=>
  intro t hs f;obtain ⟨k,n,s,l⟩:=t;simp only [lR] at hs;unfold mu at f;unfold Nd.pcs;by_cases c1:k=1
  . rw [AH c1] at f ⊢;simp only [ke,decide_eq_true_eq] at f;obtain ⟨h1,V,h3⟩:=K8 n.toNat;rw [Ib f.1.1];exact Tg (Og h3 V).1 (dB (fun c E=>Oj (V c E))) (Oi (Og h3 V).2)
  rw [At c1] at f ⊢;by_cases c2:k=2
  . rw [AH (kj c2)] at f;rw [AH c2];simp only [ke,named] at f;have M:=f.1.2;exact Tg (Cy M).1 (fun c E=>FY (G2 M c E)) (El (Cy M).2)
  by_cases c4:k=4\/k=5
  . rw [AH (kp c4)] at f;simp only [ke,named] at f;have M:=f.1.2;have key : ∀kw:lB,TokT kw->(Ar kw).1=1->(∀c∈kw.head?,CG c=true)->Nice [.tk kw,.tk [40],.tk s,.tk [41]]:=by
     intro kw aa X ab;refine ⟨fun p U=>⟨aa,fun u F c E=>Em (U u F) (FY (ab c E)),A3 Ao,fun u F c E=>?_,(Cy M).1,fun u F c E=>?_,A3 Ao,fun u F c E=>?_,trivial⟩,fun p=>⟨_,rfl,DO Ao⟩⟩
     . have:c=40:=by simpa using E.symm
       have:kw=u:=by simpa using F
       subst_vars
       exact ⟨fun _=>Ao,fun e=>(by rw [X] at e;cases e),fun e=>(by rw [X] at e;cases e)⟩
     . have:[40]=u:=by simpa using F
       rw [<-this];exact Em Ao (FY (G2 M c E))
     . have:c=41:=by simpa using E.symm
       have:s=u:=by simpa using F
       subst_vars
       exact (El (Cy M).2).1
    rw [At c2,At Aa];rcases c4 with c4|c4
    . rw [AH c4];exact key _ (A3 Ao) Ao (by simp;decide)
    . rw [At Aa,AH c4];exact key _ (A3 Ao) Ao (by simp;decide)
  rw [At Aa] at f;rw [At c2];by_cases c3:k=3
  . rw [AH c3] at f ⊢;simp only [ke,named] at f;obtain ⟨⟨-,M⟩,L⟩:=f;split at L
    . rename_i x;simp only [Aj] at hs;have Y:=Z x Aa L;refine ⟨fun p U=>⟨(Cy M).1,fun u F c E=>Em (U u F) (FY (G2 M c E)),A3 Ao,fun u F c E=>?_,?_⟩,fun p=>⟨[93],?_,DO Ao⟩⟩
      . have:c=91:=by simpa using E.symm
        have:s=u:=by simpa using F
        subst_vars
        exact ⟨fun _=>Ao,fun e=>(by rw [(Cy M).2] at e;cases e),fun e=>(by rw [(Cy M).2] at e;cases e)⟩
      . rw [DM];refine ⟨Y.wf _ (II Ao),?_⟩;obtain ⟨t,e,ct⟩:=Y.fin (some [91]);rw [e];exact ⟨A3 Ao,fun u F c E=>by
         have:c=93:=by simpa using E.symm
         have:t=u:=by simpa using F
         subst_vars;exact ct.2.1,trivial⟩
      . simp only [B9,C6]
    . cases L
  rw [At c3] at f ⊢;rw [At Aa,At Aa];by_cases c6:k=6\/k=7
  . rw [AH c6] at f ⊢;simp only [ke] at f;obtain ⟨-,L⟩:=f;split at L
    . rename_i x;simp only [Aj] at hs;have Y:=(Z x Aa L).pw (CD x.kind);have O:=Ok (k:=k) Aa Aa;refine ⟨fun p U=>⟨O.1,fun u F c E=>Em (U u F) ?_,Y.wf _ (II O.2)⟩,fun p=>Y.fin _⟩;rcases c6 with rfl|rfl
      . have:c=45:=by simpa [Cl,symbols] using E.symm
        subst this;decide
      . have:c=33:=by simpa [Cl,symbols] using E.symm
        subst this;decide
    . cases L
  rw [At c6] at f ⊢;by_cases c8:8<=k/\k<=23
  . rw [AH c8] at f;simp only [ke] at f;obtain ⟨-,L⟩:=f;split at L
    . rename_i x y;simp only [Aj] at hs;simp only [ke] at L;have h1:=(Z x Aa L.1).pw (ER x.kind k);have V:=(Z y Aa L.2).pw (Fw y.kind k);have O:=Ok (k:=k) Aa Aa;refine ⟨fun p U=>?_,fun p=>?_⟩
      . rw [DM];refine ⟨h1.wf p U,by simp;decide,O.1,?_,by simp;decide,?_⟩
        . intro u F;simp at F
        . exact V.wf _ (by intro u F;simp at F)
      . simp only [C6,B9];exact V.fin _
    . cases L
  . rw [At c8] at f;cases f
def ZD (N:Nat) : ∀t:Nd,t.size<N->t.isExpr=true->flat t.pcs=t.text:=by
 induction N with
 | zero=>intro t h;omega
 | succ N L=>
  intro t M f;obtain ⟨k,n,s,l⟩:=t;simp only [lR] at M;unfold mu at f;unfold Nd.pcs Nd.text;by_cases O:k=1
  . rw [AH O,AH O];simp [flat]
  rw [At O] at f ⊢;rw [At O];by_cases c2:k=2
  . rw [AH c2,AH c2];simp [flat]
  rw [At c2,At c2];by_cases c3:k=3
  . rw [At Aa,AH c3] at f;rw [AH c3,AH c3];simp only [ke] at f;obtain ⟨-,E⟩:=f;split at E
    . rename_i x;simp only [Aj] at M;simp only [flat,Bq,L x Aa E];simp
    . cases E
  rw [At c3,At c3];by_cases c4:k=4
  . rw [AH c4,AH c4];simp [flat]
  rw [At c4,At c4];by_cases c5:k=5
  . rw [AH c5,AH c5];simp [flat]
  rw [At c5,At c5];rw [At Aa,At Aa] at f;by_cases F:k=6\/k=7
  . rw [AH F] at f;rw [AH F,AH F];simp only [ke] at f;obtain ⟨-,E⟩:=f;split at E
    . rename_i x;simp only [Aj] at M;simp only [flat,VI,L x Aa E]
    . cases E
  rw [At F] at f;rw [At F,At F];by_cases U:8<=k/\k<=23
  . rw [AH U] at f;simp only [ke] at f;obtain ⟨-,E⟩:=f;split at E
    . rename_i x y;simp only [Aj] at M;simp only [ke] at E;simp only [Bq,flat,VI,L x Aa E.1,L y Aa E.2];simp
    . cases E
  . rw [At U] at f;cases f
def G.cl_mono {E F:Int} {x y:Nd} {b:CP} (h:G (.cl E x) b y) (N:F<=E):G (.cl F x) b y:=by
 generalize f:Nt.cl E x=O at h
 induction h generalizing x with
 | ex _ _=>cases f
 | cl0=>cases f;exact G.cl0
 | cl1 h1 U L M V _ i5=>cases f;exact G.cl1 h1 Aa L M (i5 rfl)
 | neg=>cases f
 | not=>cases f
 | num=>cases f
 | top=>cases f
 | size=>cases f
 | par=>cases f
 | place=>cases f
 | var=>cases f
 | item=>cases f
def G.ex_mono {f E:Int} {y:Nd} {b:CP} (h:G (.ex f) b y) (F:E<=f):G (.ex E) b y:=by
 cases h with
 | ex h1 L=>exact G.ex h1 (L.cl_mono F)
def G.un_ex {a:CP} {x:Nd} (h:G .un a x) (lv:Int):G (.ex lv) a x:=by
 have:=G.ex h (G.cl0 (lv:=lv));rwa [ll] at this
def G.cl_snoc {lv op:Int} {t:lB} {x y z:Nd} {b c:CP} (h:G (.cl lv x) b y) (L:Ff t=some op) (Z:Bv op=lv) (M:G (.ex (Bv op+1)) c z):G (.cl lv x) (b++t::c) (.mk op 0 [] [y,z]):=by
 generalize f:Nt.cl lv x=nt at h
 induction h generalizing x with
 | ex _ _=>cases f
 | @cl0 l F=>
  cases f;have:=G.cl1 (lv:=lv) (x:=F) L Aa M (fun u N=>by cases N) (G.cl0 (lv:=lv));rwa [ll] at this
 | @cl1 l o u a b F y0 z0 h1 O U V h5 _ i5=>
  cases f;have:=G.cl1 (lv:=lv) (x:=F) h1 O U (b:=b++t::c) ?_ (i5 rfl)
  . rw [show u::(a++(b++t::c))=u::(a++b)++t::c by simp] at this;exact this
  . cases b with
    | nil=>
     intro v X o' E;have:t=v:=by simpa using X
     subst this;rw [L] at E;cases E;omega
    | cons v r=>exact fun w Y=>V w (by simpa using Y)
 | neg=>cases f
 | not=>cases f
 | num=>cases f
 | top=>cases f
 | size=>cases f
 | par=>cases f
 | place=>cases f
 | var=>cases f
 | item=>cases f
def Rk {k:Int} (f:8<=k) (h1:k<=23):Ff (Cl k)=some k:=by
 have:k=8\/k=9\/k=10\/k=11\/k=12\/k=13\/k=14\/k=15\/k=16\/k=17\/k=18\/k=19\/k=20\/k=21\/k=22\/k=23:=by omega
 rcases this with rfl|rfl|rfl|rfl|rfl|rfl|rfl|rfl|rfl|rfl|rfl|rfl|rfl|rfl|rfl|rfl<;>decide
structure Said (t:Nd):Prop where
 bin:CD t.kind=true->G (.ex (Bv t.kind)) (toks t.pcs) t
 un:CD t.kind=false->G .un (toks t.pcs) t
 pl:t.isPlace=true->G .pl (toks t.pcs) t
def Said.ex {t:Nd} (h:Said t) {lv:Int} (f:CD t.kind=true->lv<=Bv t.kind):G (.ex lv) (toks t.pcs) t:=by
 cases hb:CD t.kind
 . exact (h.un hb).un_ex lv
 . exact (h.bin hb).ex_mono (f hb)
def LM {k:Int} (h:CD k=true):1<=Bv k:=by
 simp only [CD,ke,decide_eq_true_eq] at h;exact (YD h.1 h.2).1
def Said.par {t:Nd} (h:Said t):G .un (toks (pw true t.pcs)) t:=by
 rw [dA];exact G.par (h.ex (fun f=>LM f))
def Said.opd {t:Nd} (h:Said t) {lv:Int} {b:Bool} (f:b=false->CD t.kind=true->lv<=Bv t.kind):G (.ex lv) (toks (pw b t.pcs)) t:=by
 cases b
 . exact h.ex (f rfl)
 . exact h.par.un_ex lv
def Th (N:Nat) : ∀t:Nd,t.size<N->t.isExpr=true->t.wf->Said t:=by
 induction N with
 | zero=>intro t h;omega
 | succ N ih=>
  intro t hs he hw;obtain ⟨k,n,s,l⟩:=t;simp only [lR] at hs;have f:=he;unfold mu at he;have nb : ¬(8<=k/\k<=23)->CD k=false:=fun h=>by
   cases hb:CD k
   . rfl
   . simp only [CD,ke,decide_eq_true_eq] at hb;exact absurd hb h
  by_cases c1:k=1
  . rw [AH c1] at he;subst c1;simp only [ke,decide_eq_true_eq,lq] at he;obtain ⟨⟨h0,rfl⟩,rfl⟩:=he;obtain ⟨v1,v2,v3⟩:=K8 n.toNat;have e:(Nd.mk 1 n [] []).pcs=[.tk (Lib.decDigits n.toNat)]:=by unfold Nd.pcs;rw [AH rfl,Ib h0]
    have hsd:BW (Lib.decDigits n.toNat)=true:=by
     cases hd:Lib.decDigits n.toNat with
     | nil=>exact absurd hd v3
     | cons c r=>simpa [BW] using v2 c (by rw [hd];simp)
    have hmax:n<=9223372036854775807:=hw.2.2.2.1;have hg:G .un [Lib.decDigits n.toNat] (.mk 1 (A7 (Lib.decDigits n.toNat)) [] []):=G.num hsd (by rw [v1];omega);rw [v1,show ((n.toNat:Nat):Int)=n by omega] at hg;refine ⟨fun h=>(by simp [CD,lZ] at h),fun _=>by rw [e];exact hg,fun h=>(by simp [my,lZ] at h)⟩
  rw [At c1] at he;by_cases d:k=2\/k=4\/k=5
  . rw [AH d] at he;simp only [ke,named,beq_iff_eq,lq] at he;obtain ⟨⟨rfl,hn⟩,rfl⟩:=he;rcases d with rfl|rfl|rfl
    . have e:(Nd.mk 2 0 s []).pcs=[.tk s]:=by unfold Nd.pcs;rw [At Ao,AH rfl]
      refine ⟨fun h=>(by simp [CD,lZ] at h),fun _=>by rw [e];exact G.place (G.var hn),fun _=>by rw [e];exact G.var hn⟩
    . have e:(Nd.mk 4 0 s []).pcs=[.tk [116,111,112],.tk [40],.tk s,.tk [41]]:=by unfold Nd.pcs;rw [At Ao,At Ao,At Ao,AH rfl]
      refine ⟨fun h=>(by simp [CD,lZ] at h),fun _=>by rw [e];exact G.top hn,fun h=>(by simp [my,lZ] at h)⟩
    . have e:(Nd.mk 5 0 s []).pcs=[.tk [115,105,122,101],.tk [40],.tk s,.tk [41]]:=by unfold Nd.pcs;rw [At Ao,At Ao,At Ao,At Ao,AH rfl]
      refine ⟨fun h=>(by simp [CD,lZ] at h),fun _=>by rw [e];exact G.size hn,fun h=>(by simp [my,lZ] at h)⟩
  rw [At d] at he;by_cases c3:k=3
  . rw [AH c3] at he;subst c3;simp only [ke,named,beq_iff_eq] at he;obtain ⟨⟨rfl,hn⟩,hx⟩:=he;split at hx
    . rename_i x;simp only [Aj] at hs;have hi:=ih x Aa hx hw.2.2.2.2.2.2.1;have e:(Nd.mk 3 0 s [x]).pcs = .tk s::.tk [91]::(x.pcs++[.tk [93]]):=by
       conv=>lhs;unfold Nd.pcs
       rw [At Ao,At Ao,AH rfl]
      have hg:G .pl (toks (Nd.mk 3 0 s [x]).pcs) (.mk 3 0 s [x]):=by
       rw [e];simp only [toks,Br];exact G.item hn (hi.ex (fun hb=>LM hb))
      exact ⟨fun h=>(by simp [CD,lZ] at h),fun _=>G.place hg,fun _=>hg⟩
    . cases hx
  rw [At c3] at he;by_cases c6:k=6\/k=7
  . rw [AH c6] at he;simp only [ke,plain,beq_iff_eq,lq] at he;obtain ⟨⟨rfl,rfl⟩,hx⟩:=he;split at hx
    . rename_i x;simp only [Aj] at hs;have hi:=ih x Aa hx hw.2.2.2.2.2.2.1;have hu:G .un (toks (pw (CD x.kind) x.pcs)) x:=by
       cases hb:CD x.kind
       . exact hi.un hb
       . exact hi.par
      have e:(Nd.mk k 0 [] [x]).pcs = .tk (Cl k)::pw (CD x.kind) x.pcs:=by
       conv=>lhs;unfold Nd.pcs
       rw [At Aa,At Aa,At Aa,At Aa,At Aa,AH c6]
      refine ⟨fun h=>(by rw [show (Nd.mk k 0 [] [x]).kind=k from rfl,nb Aa] at h;cases h),fun _=>?_,fun h=>?_⟩
      . rw [e];simp only [toks];rcases c6 with rfl|rfl
        . exact G.neg hu
        . exact G.not hu
      . exfalso;simp only [my,lZ,ke,Bool.or_eq_true,beq_iff_eq] at h;omega
    . cases hx
  rw [At c6] at he;by_cases c8:8<=k/\k<=23
  . rw [AH c8] at he;simp only [ke,plain,beq_iff_eq,lq] at he;obtain ⟨⟨rfl,rfl⟩,hx⟩:=he;split at hx
    . rename_i x y;simp only [Aj] at hs;simp only [ke] at hx;have h1:=ih x Aa hx.1 hw.2.2.2.2.2.2.1;have h2:=ih y Aa hx.2 hw.2.2.2.2.2.2.2.1;have hb:=Rk c8.1 c8.2;have g1:G (.ex (Bv k)) (toks (pw (ER x.kind k) x.pcs)) x:=h1.opd (fun hp hb=>by
       simp only [ER,hb,Bool.true_and,decide_eq_false_iff_not] at hp;omega)
      have g2:G (.ex (Bv k+1)) (toks (pw (Fw y.kind k) y.pcs)) y:=h2.opd (fun hp hb=>by
       simp only [Fw,hb,Bool.true_and,decide_eq_false_iff_not] at hp;omega)
      have e:(Nd.mk k 0 [] [x,y]).pcs=pw (ER x.kind k) x.pcs++(.sp [32]::.tk (Cl k)::.sp [32]::pw (Fw y.kind k) y.pcs):=by
       conv=>lhs;unfold Nd.pcs
       rw [At Aa,At Aa,At Aa,At Aa,At Aa,At Aa]
      have hbk:CD k=true:=by simp only [CD,ke,decide_eq_true_eq];exact c8
      refine ⟨fun _=>?_,fun h=>(by rw [show (Nd.mk k 0 [] [x,y]).kind=k from rfl,hbk] at h;cases h),fun h=>?_⟩
      . rw [e];simp only [Br,toks];show G (.ex (Bv k)) _ _;generalize toks (pw (ER x.kind k) x.pcs)=A at *;cases g1 with
        | @ex _ a b x0 _ gu gc=>
         rw [kA];exact G.ex gu (gc.cl_snoc hb rfl g2)
      . exfalso;simp only [my,lZ,ke,Bool.or_eq_true,beq_iff_eq] at h;omega
    . cases hx
  . rw [At c8] at he;cases he
end Bk
