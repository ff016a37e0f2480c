/- Texts that the proofs of ExerciseCut need. No condition. (Part 5 of 8.) -/
import Derived.Test.YtjkgmpljepnmiaaGreatDoorPEcCut4
set_option linter.unusedSimpArgs false
set_option linter.unusedVariables false
set_option linter.defProp false
set_option maxRecDepth 100000
set_option maxHeartbeats 4000000
open Go.Proofs.Tryz
open List renaming length_append->j9,length_cons->kf,getElem?_eq_getElem->kg,length_nil->ki,getElem_cons_succ->km,getElem_mem->kq,set_cons_zero->kx,take_succ_eq_append_getElem->ky,append_assoc->kA,cons_append->kD,take_length->kE,mem_cons->kF,not_mem_nil->kI,getElem?_eq_none->kO,length_take->kU,replicate->kV,take_append_drop->lf,flatten_cons->lg,drop_eq_getElem_cons->lh,nil_append->lk,append_nil->ll,take_succ_cons->lo,isEmpty_iff->lq,map_cons->lr,mem_cons_of_mem->lx,all_eq_true->lG,getElem?_append_right->lH,getElem?_append_left->lI,mem_singleton->lM
open Bool renaming and_eq_true->ke,false_eq_true->lj
open Go.Lib renaming hid->kh,indexByte->li
open Or renaming inl->kj,inr->kp
open Go.Result renaming andThen->kn,andThen_ok->lw
open Nat renaming le_refl->kv,zero_le->kC,blt->kH,lt_or_ge->kK,le_trans->kW,le_of_ble_eq_true->kY,eq_of_beq_eq_true->ln,ble->lD,beq->lE
open Option.some renaming injEq->kz,inj->kG
open Go.Sem renaming run_bind->kB,run_pure->kJ
open Go renaming Calls->kL
open Go.IntWalk renaming i64_in->kN
open Go.Region renaming ready->kP,binds->lF
open List.cons renaming injEq->kQ
open Go.Value.slice renaming injEq->kT
open Prod.mk renaming injEq->kX
open Go.DataW renaming trod->kZ
open Array renaming getElem?_eq_none->ld
open Go.Value renaming slice->lm,ownBlock->lp
open Go.Addr renaming add->lA
open Go.Oper renaming wp->lJ
open Bk.Ext renaming refl->lN,trans->lQ,fr->mt
open Bk.Nd renaming size->lR
open Bk.Blk renaming fr->lW,cell->lX,ext->l7,row->l8
open Bk.Nd.sits renaming wide->lY,fr->mo
open Bk.Fr renaming refl->mb
open Bk.Row renaming ext->mf
open Bk.Value renaming one->mm
open Bk.Arr renaming get->mq
open Bk.VDs renaming fr->mv
open Bk.rowSits renaming fr->mB
namespace Bk
open Go Go.RowKit Go.Proofs
attribute [local irreducible] Go.Calls
def Sw {f:List PD} {s:lB} {i:Nat} (h:Gr f s=some i):i<f.length:=by
 unfold Gr at h;obtain ⟨E,-⟩:=List.findIdx?_eq_some_iff_getElem.1 h;exact E
set_option maxHeartbeats 8000000 in
def bK (g:PG) (hg:g.procs.length<=1000000) (k n:Int) (s:lB) (l:List Nd) (ka:oA) (kc:Nat) (v:List VD) (hv:v.length<=1000000) (S S':nP) (va:oA) (vc:Nat) (pa:oA) (pc:Nat) (ma:oA) (mc:Nat) (a:oA) (c:Nat) (w:wD) (f:PDs S w g.procs pa) (F:VDs S' w v a) :
 Calls prog 133 #[.agg (g.cells va vc pa pc ma mc).toArray,(Nd.mk k n s l).val ka kc,.slice a v.length c] w fun e w'=>e = .returned (.int .i64 (DT g.procs v k s l.length))/\Ext w w':=by
 have X:=lN w;have f:=f.ltA;have HU:=kh (iY v hv s);have HF:=kh (Q5 v hv s);have HP:=kh (Uh g hg s);show Calls prog 133 #[.agg (g.cells va vc pa pc ma mc).toArray,.agg #[.int .u8 k,.int .i64 n,str s,.slice ka l.length kc],.slice a v.length c] w _;refine Ae func133 ntmps133 rfl rfl ?_
 focus
  refine cS (eB [_,_,_,_,_,_] ?_);intro b1 w2 L x5 p6 z7;revert F X f;refine eE x5 ?_;intro F X f;refine eB [_,_,_,_] ?_;intro b8 w9 E ab a0 a1;revert L F X f;refine eE ab ?_;intro L F X f;refine eK ?_;refine AF rfl (fun ac=>?_) (fun ac=>?_);rotate_left;rotate_left
 . have N:DT g.procs v k s l.length=RD v s 1:=by unfold DT;rw [AH Aa]
   rw [N];refine eK ?_;refine cC rfl (HU.out _ _ _ _ _ Af) ?_;rintro _ a2 ⟨⟨⟩,ad⟩;revert E L F X f;refine eY ad ?_;intro a3 E L F X f;refine eK ?_;refine xR ?_;exact ⟨rfl,X⟩
 focus
  refine eK ?_;refine AF rfl (fun ae=>?_) (fun ae=>?_);rotate_left;refine Al ?_;rotate_left
 . have N:DT g.procs v k s l.length=RD v s 2:=by unfold DT;rw [At Aa,AH Aa]
   rw [N];refine eK ?_;refine cC rfl (HU.out _ _ _ _ _ Af) ?_;rintro _ a4 ⟨⟨⟩,af⟩;revert E L F X f;refine eY af ?_;intro a5 E L F X f;refine eK ?_;refine xR ?_;exact ⟨rfl,X⟩
 refine Fk (ι:=Unit) (fun _=>[(2,.slice a v.length c),(3,.pointer (some ⟨b1,0,none⟩)),(4,.pointer (some ⟨b8,0,none⟩)),(9,.int .u8 k),(22,.bool (decide (k=4\/k=5\/k=44\/k=45)))]) (fun _ w'=>w'=w9) ?_ ?_
 . focus
    refine eK ?_;refine AF rfl (fun ag=>?_) (fun ag=>?_);refine Av ?_;rotate_left;refine eK ?_;refine AF rfl (fun ah=>?_) (fun ah=>?_);refine Av ?_;rotate_left;refine eK ?_;refine AF rfl (fun ai=>?_) (fun ai=>?_);refine Av ?_;rotate_left;refine Ag (C1 V1 (C1 Pa (Ah ?_)));rotate_left
   all_goals exact Cq () (Am rfl (Am rfl (Am rfl (Am rfl (Bj rfl (congrArg Value.bool (decide_eq_decide.2 Aa)) BB))))) rfl
 rintro-u1 h;subst h
 focus
  refine AF rfl (fun aj=>?_) (fun aj=>?_);rotate_left;refine Al ?_;rotate_left
 . have N:DT g.procs v k s l.length=RD v s 3:=by unfold DT;rw [At Aa,At Aa,AH Aa]
   rw [N];refine eK ?_;refine cC rfl (HU.out _ _ _ _ _ Af) ?_;rintro _ a6 ⟨⟨⟩,ak⟩;revert E L F X f;refine eY ak ?_;intro a7 E L F X f;refine eK ?_;refine xR ?_;exact ⟨rfl,X⟩
 refine Fk (ι:=Unit) (fun _=>[(2,.slice a v.length c),(3,.pointer (some ⟨b1,0,none⟩)),(4,.pointer (some ⟨b8,0,none⟩)),(9,.int .u8 k),(31,.bool (decide (k=54\/k=55)))]) (fun _ w'=>w'=u1) ?_ ?_
 . focus
    refine eK ?_;refine AF rfl (fun al=>?_) (fun al=>?_);refine Av ?_;rotate_left;refine Ag (C1 V1 (C1 Pa (Ah ?_)));rotate_left
   all_goals exact Cq () (Am rfl (Am rfl (Am rfl (Am rfl (Bj rfl (congrArg Value.bool (decide_eq_decide.2 Aa)) BB))))) rfl
 rintro-u2 h;subst h
 focus
  refine AF rfl (fun am=>?_) (fun am=>?_);rotate_left;refine Al ?_;rotate_left
 . have N:DT g.procs v k s l.length=F2 v s:=by unfold DT;rw [At Aa,At Aa,At Aa,AH Aa]
   rw [N];refine eK ?_;refine cC rfl (HF.out _ _ _ _ Af) ?_;rintro _ a8 ⟨⟨⟩,an⟩;revert E L F X f;refine eY an ?_;intro a9 E L F X f;refine eK ?_;refine xR ?_;exact ⟨rfl,X⟩
 refine Fk (ι:=Unit) (fun _=>[(2,.slice a v.length c),(3,.pointer (some ⟨b1,0,none⟩)),(4,.pointer (some ⟨b8,0,none⟩)),(9,.int .u8 k),(38,.bool (decide (k=50\/k=51)))]) (fun _ w'=>w'=u2) ?_ ?_
 . focus
    refine eK ?_;refine AF rfl (fun ao=>?_) (fun ao=>?_);refine Av ?_;rotate_left;refine Ag (C1 V1 (C1 Pa (Ah ?_)));rotate_left
   all_goals exact Cq () (Am rfl (Am rfl (Am rfl (Am rfl (Bj rfl (congrArg Value.bool (decide_eq_decide.2 Aa)) BB))))) rfl
 rintro-u3 h;subst h
 focus
  refine AF rfl (fun ap=>?_) (fun ap=>?_);rotate_left;refine eK ?_;refine xR ?_;rotate_left
 . have N:DT g.procs v k s l.length=X6 g.procs s l.length:=by unfold DT;rw [At Aa,At Aa,At Aa,At Aa,AH Aa]
   rw [N];unfold X6;have M:=kh (HP.out (· < w.heap.size) va vc pa pc ma mc);unfold Jc at M;cases hq:Gr g.procs s with
   | none=>
    rw [hq] at M;dsimp only at M;refine eK ?_;refine cC rfl (M.out _ Af) ?_;rintro _ bb ⟨⟨⟩,aq⟩;revert E L F X f;refine eY aq ?_;intro bd E L F X f;refine eK ?_;refine xR ?_;exact ⟨rfl,X⟩
   | some i=>
    rw [hq] at M;dsimp only at M;have hi:=Sw hq;obtain ⟨kb,ko,rfl,kS,O⟩:=f.get (by intro e;rw [e] at hi;simp at hi);obtain ⟨qa,qc,ba,bc,V,-,-⟩:=O i g.procs[i] (kg hi);have hm:((g.procs[i]?.map fun p=>p.params.length).getD 0)=g.procs[i].params.length:=by rw [kg hi];rfl
    dsimp only;rw [hm];clear O hm hq;generalize g.procs[i]=y at *
    focus
     refine eK ?_;refine cC rfl (M.out _ Af) ?_;rintro _ Y ⟨⟨⟩,ar⟩;revert E F X L f V;refine eY ar ?_;intro be E F X L f V;refine eK ?_;refine AE (fun wz=>Ext Y wz) 10 (.pure 0 (.pure 1 (.pure 2 (.pure 3 (.pure 4 (.pure 5 (.pure 6 (.pure 7 (.pure 8 (.pure 9 .tail)))))))))) mixed BD (Ac (Ak (Ac An))) ?_;intro au Z _;have U:(fun wz=>Ext Y wz) au:=Z;simp only at U;have av:=E;have ay:=F;have az:=L;have aw:=f;have aa:=V;revert E F X L f V;refine eY Z ?_;intro bf E F X L f V;refine ⟨U,?_⟩;refine eT ?_;refine Tq rfl (Dr aa) (Tq rfl Pz ?_);refine AI rfl ?_;refine eK ?_;refine Kn rfl (fun ax=>?_) (fun ax=>?_);refine eK ?_;refine xR ?_;rotate_left;refine eK ?_;refine xR ?_;rotate_left
    . rw [At Aa];exact ⟨rfl,X⟩
    . rw [AH Aa];exact ⟨rfl,X⟩
 . have N:DT g.procs v k s l.length=0:=by unfold DT;rw [At Aa,At Aa,At Aa,At Aa,At Aa]
   rw [N];exact ⟨rfl,X⟩
set_option maxHeartbeats 8000000 in
def Sx (g:PG) (hg:g.procs.length<=1000000) (k n:Int) (s:lB) (l:List Nd) (hl:l.length<=1000000) (i:Nat) (hi:i<l.length) (v:List VD) (hv:v.length<=1000000) (S S' bt:nP) (va:oA) (vc:Nat) (pa:oA) (pc:Nat) (ma:oA) (mc:Nat) (ka:oA) (kc:Nat) (a:oA) (c:Nat) (w:wD) (f:PDs S w g.procs pa) (aj:rowSits bt w l ka) (E:VDs S' w v a) :
 Calls prog 135 #[.agg (g.cells va vc pa pc ma mc).toArray,(Nd.mk k n s l).val ka kc,.int .i64 i,.slice a v.length c] w fun e w'=>e = .returned (.int .i64 (RE g.procs v s l.length i (l[i]'hi).name))/\Ext w w':=by
 have X:=lN w;have f:=f.ltA;have aj:=CO _ _ aj;obtain ⟨xb,xo,rfl,xS,an⟩:=Bx aj (by intro e;subst e;simp at hi);obtain ⟨xa,xc,h,-⟩:=an i l[i] (kg hi);clear an aj;have HF:=kh (Ue v hv (l[i]).name);have HP:=kh (Uh g hg s (· < w.heap.size) va vc pa pc ma mc);unfold Jc at HP;unfold RE;generalize l[i]=x at *;show Calls prog 135 #[.agg (g.cells va vc pa pc ma mc).toArray,.agg #[.int .u8 k,.int .i64 n,str s,.slice (some ⟨xb,xo,none⟩) l.length kc],.int .i64 i,.slice a v.length c] w _;generalize GX v x.name=o at *;cases o with
 | none=>
  dsimp only [Option.isSome,Option.getD] at HF;refine Ae func135 ntmps135 rfl rfl ?_;refine cS (eB [_,_,_,_,_,_] ?_);intro b1 w2 h4 x5 p6 z7;revert E X f h;refine eE x5 ?_;intro E X f h;refine eB [_,_,_,_] ?_;intro b8 w9 ak bu da db;revert h4 E X f h;refine eE bu ?_;intro h4 E X f h;refine eK ?_;refine C1 (Pw h) (cC rfl (HF.out _ _ _ _ Af) ?_);rintro _ dc ⟨⟨⟩,bv⟩;revert ak h4 E X f h;refine eY bv ?_;intro dd ak h4 E X f h;refine eK ?_;refine xA [_,_,_] ?_;intro de df bw;refine eI [_,_,_] bw ?_;intro dg dh bx di dm;revert ak h4 E X f h;refine eE bx ?_;intro ak h4 E X f h;refine eK ?_;refine xR ?_;exact ⟨rfl,X⟩
 | some d=>
  obtain ⟨dn,dk,dl⟩:=d;dsimp only [Option.isSome,Option.getD] at HF ⊢;cases hq:Gr g.procs s with
  | none=>
   rw [hq] at HP;dsimp only [Option.bind] at HP ⊢;refine Ae func135 ntmps135 rfl rfl ?_;refine cS (eB [_,_,_,_,_,_] ?_);intro dp dq V bz dr ds;revert E X f h;refine eE bz ?_;intro E X f h;refine eB [_,_,_,_] ?_;intro dt du L a2 b4 b5;revert V E X f h;refine eE a2 ?_;intro V E X f h;refine eK ?_;refine C1 (Pw h) (cC rfl (HF.out _ _ _ _ Af) ?_);rintro _ b6 ⟨⟨⟩,a3⟩;revert L V E X f h;refine eY a3 ?_;intro b7 L V E X f h;refine eK ?_;refine xA [_,_,_] ?_;intro b9 ca Z;refine Gp [_,_,_] Ab rfl rfl rfl rfl rfl rfl Z rfl ?_;intro cb Z;have aa:=Z.blk;dsimp only at aa;have a4:=Z.ext;have cc:=Z.pos;have cd:=Z.size;revert L V E X f h;refine eE a4 ?_;intro L V E X f h;refine eK ?_;refine cC rfl (HP.out _ Af) ?_;rintro _ ao ⟨⟨⟩,a5⟩;revert aa L V E X f h;refine eY a5 ?_;intro ce aa L V E X f h;refine eK ?_;refine AE (fun wz=>Ext ao wz) 13 (.pure 0 (.pure 1 (.pure 2 (.pure 3 (.pure 4 (.pure 5 (.pure 6 (.pure 7 (.pure 8 (.pure 9 (.pure 10 (.pure 11 (.pure 12 .tail))))))))))))) mixed BD (Ac (Ac An)) ?_;intro a6 ap _;have ae:(fun wz=>Ext ao wz) a6:=ap;simp only at ae;have bp:=aa;have bq:=L;have b0:=V;have aq:=E;have af:=f;have ar:=h;revert aa L V E X f h;refine eY ap ?_;intro cf aa L V E X f h;refine ⟨ae,?_⟩;refine Tq rfl Mv (Tq rfl V3 (Tq rfl Mv (eM rfl (eM rfl (eM rfl (eM rfl (eM rfl (eM rfl (eM rfl (eM rfl (eM rfl ?_)))))))))));refine eM rfl ?_;refine AI rfl ?_;refine eK ?_;refine xR ?_
   exact ⟨rfl,X⟩
  | some j=>
   rw [hq] at HP;have hj:=Sw hq;dsimp only [Option.bind] at HP ⊢;rw [kg hj];dsimp only;obtain ⟨kb,ko,rfl,kS,au⟩:=f.get (by intro e;rw [e] at hj;simp at hj);obtain ⟨qa,qc,ba,bc,M,az,-⟩:=au j g.procs[j] (kg hj);clear au hq;generalize g.procs[j]=y at *;by_cases hm:l.length=y.params.length
   . rw [At Aa];obtain ⟨zb,zo,rfl,zS,a7⟩:=az.get (by intro e;rw [e] at hm;simp only [ki] at hm;omega);have r1:=a7 i (y.params[i]'(by omega)) (kg Aa);rw [kg Aa];dsimp only;clear a7 az;generalize y.params[i]'(by omega)=q at *;obtain ⟨qn,qk,ql⟩:=q;replace r1:Row w ⟨zb,zo+i*3,none⟩ [str qn,.int .u8 qk,.int .i64 ql]:=r1;dsimp only;refine Ae func135 ntmps135 rfl rfl ?_
     focus
      refine cS (eB [_,_,_,_,_,_] ?_);intro dv dw O b2 dx dy;revert E X h f M r1;refine eE b2 ?_;intro E X h f M r1;refine eB [_,_,_,_] ?_;intro dz d0 F a8 cg ch;revert O E X h f M r1;refine eE a8 ?_;intro O E X h f M r1;refine eK ?_;refine C1 (Pw h) (cC rfl (HF.out _ _ _ _ Af) ?_);rintro _ ci ⟨⟨⟩,a9⟩;revert F O E X h f M r1;refine eY a9 ?_;intro cj F O E X h f M r1;refine eK ?_;refine xA [_,_,_] ?_;intro ck cl ab;refine Gp [_,_,_] Ab rfl rfl rfl rfl rfl rfl ab rfl ?_;intro cm ab;have U:=ab.blk;dsimp only at U;have bb:=ab.ext;have cn:=ab.pos;have co:=ab.size;revert F O E X h f M r1;refine eE bb ?_;intro F O E X h f M r1;refine eK ?_;refine cC rfl (HP.out _ Af) ?_;rintro _ av ⟨⟨⟩,bd⟩;revert U F O E X h f M r1;refine eY bd ?_;intro cp U F O E X h f M r1;refine eK ?_;refine AE (fun wz=>Ext av wz) 13 (.pure 0 (.pure 1 (.pure 2 (.pure 3 (.pure 4 (.pure 5 (.pure 6 (.pure 7 (.pure 8 (.pure 9 (.pure 10 (.pure 11 (.pure 12 .tail))))))))))))) mixed BD (Ac (Ac An)) ?_;intro be aw _;have ag:(fun wz=>Ext av wz) be:=aw;simp only at ag;have br:=U;have al:=F;have a0:=O;have aq:=E;have ar:=h;have af:=f;have ah:=M;have cq:=r1;revert U F O E X h f M r1;refine eY aw ?_;intro cr U F O E X h f M r1;refine ⟨ag,?_⟩;refine Tq rfl Mv (Tq rfl V3 (Tq rfl Mv (eN rfl (AK Ab rfl rfl rfl) (eN rfl (AA Ab rfl rfl rfl (fun wz hz=>lX (l7 al hz) rfl)) (eN rfl (Dw Ab rfl rfl) (eN rfl (AK Ab rfl rfl rfl) (eN rfl (AA Ab rfl rfl rfl (fun wz hz=>lX (l7 a0 hz) rfl)) (eN rfl (A0 rfl) (eN rfl (AG Ab rfl rfl rfl rfl Aa Aa) (eN rfl (AK Ab rfl rfl rfl) (eN rfl (AA Ab rfl rfl rfl (fun wz hz=>Row.at (mf ah hz) rfl)) ?_)))))))))));refine eN rfl (Dw Ab rfl rfl) ?_;refine AI rfl ?_;refine eK ?_;refine C1 (Pw M) ?_;refine eK ?_;refine xA [_,_,_] ?_;intro ct cu bf;refine eI [_,_,_] bf ?_
      intro cv cw bg cx cy;revert U F O E X h f M r1;refine eE bg ?_;intro U F O E X h f M r1;refine eK ?_;refine DG rfl rfl rfl (fun bh=>?_) (fun bh=>?_);refine eK ?_;refine xR ?_;rotate_left;refine eK ?_;refine Kn rfl (fun bi=>?_) (fun bi=>?_);refine eK ?_;refine xR ?_;rotate_left;refine eK ?_;refine xR ?_;rotate_left
     all_goals exact ⟨by simp [*],X⟩
   . rw [AH Aa];clear az;refine Ae func135 ntmps135 rfl rfl ?_;refine cS (eB [_,_,_,_,_,_] ?_);intro d1 d2 Y b3 d3 d4;revert E X h f M;refine eE b3 ?_;intro E X h f M;refine eB [_,_,_,_] ?_;intro d5 d6 N bj cz c0;revert Y E X h f M;refine eE bj ?_;intro Y E X h f M;refine eK ?_;refine C1 (Pw h) (cC rfl (HF.out _ _ _ _ Af) ?_);rintro _ c1 ⟨⟨⟩,bk⟩;revert N Y E X h f M;refine eY bk ?_;intro c2 N Y E X h f M;refine eK ?_;refine xA [_,_,_] ?_;intro c3 c4 ac;refine Gp [_,_,_] Ab rfl rfl rfl rfl rfl rfl ac rfl ?_;intro c5 ac;have ad:=ac.blk;dsimp only at ad;have bm:=ac.ext;have c6:=ac.pos;have c7:=ac.size;revert N Y E X h f M;refine eE bm ?_;intro N Y E X h f M;refine eK ?_;refine cC rfl (HP.out _ Af) ?_;rintro _ ax ⟨⟨⟩,bn⟩;revert ad N Y E X h f M;refine eY bn ?_;intro c8 ad N Y E X h f M;refine eK ?_;refine AE (fun wz=>Ext ax wz) 13 (.pure 0 (.pure 1 (.pure 2 (.pure 3 (.pure 4 (.pure 5 (.pure 6 (.pure 7 (.pure 8 (.pure 9 (.pure 10 (.pure 11 (.pure 12 .tail))))))))))))) mixed BD (Ac (Ac An)) ?_;intro bo ay _;have ai:(fun wz=>Ext ax wz) bo:=ay;simp only at ai;have bs:=ad;have am:=N;have a1:=Y;have aq:=E;have ar:=h;have af:=f;have ah:=M;revert ad N Y E X h f M;refine eY ay ?_;intro c9 ad N Y E X h f M;refine ⟨ai,?_⟩;refine Tq rfl Mv (Tq rfl V3 (Tq rfl Mv (eN rfl (AK Ab rfl rfl rfl) (eN rfl (AA Ab rfl rfl rfl (fun wz hz=>lX (l7 am hz) rfl)) (eN rfl (Dw Ab rfl rfl) (eN rfl (AK Ab rfl rfl rfl) (eN rfl (AA Ab rfl rfl rfl (fun wz hz=>lX (l7 a1 hz) rfl)) (eN rfl (A0 rfl) (eN rfl (AG Ab rfl rfl rfl rfl Aa Aa) (eN rfl (AK Ab rfl rfl rfl) (eN rfl (AA Ab rfl rfl rfl (fun wz hz=>Row.at (mf ah hz) rfl)) ?_)))))))))));refine eN rfl (Dw Ab rfl rfl) ?_;refine AI rfl ?_;refine eK ?_;refine xR ?_
     all_goals exact ⟨rfl,X⟩
structure FS (c fb m:Nat) (w:wD) (v:Value):Prop where
 cell:Blk w fb [v]
 own:OwnQ (I5 4) w (fun _=>False) c 150 v (kV m ())
 ne:v.ownBlock≠some fb
 le:c<=w.heap.size
structure Eff (fb:Nat) (w:wD) (v:Value) (w':wD) (v':Value):Prop where
 fr:Fr (fun k=>k=fb\/v.ownBlock=some k) w w'
 new : ∀g,v'.ownBlock=some g->v.ownBlock=some g\/w.heap.size<=g
def Eff.of_ext {fb:Nat} {w w':wD} {v:Value} (x:Ext w w'):Eff fb w v w' v:=⟨⟨x.os,x.tape,x.output,x.size,fun _ f _=>x.block f⟩,fun _ h=>kj h⟩
def Eff.trans {fb:Nat} {w E F:wD} {v L v2:Value} (h:Eff fb w v E L) (k:Eff fb E L F v2):Eff fb w v F v2:=by
 have M:=h.fr.size;refine ⟨⟨k.fr.os.trans h.fr.os,k.fr.tape.trans h.fr.tape,k.fr.output.trans h.fr.output,kW M k.fr.size,fun i N f=>?_⟩,fun g O=>?_⟩
 . refine (k.fr.block i Aa (fun e=>?_)).trans (h.fr.block i N f);rcases e with e|e
   . exact f (kj e)
   . rcases h.new i e with e|e
     . exact f (kp e)
     . omega
 . rcases k.new g O with h1|h1
   . exact h.new g h1
   . exact kp Aa
def Kp (fb:Nat) (w:wD) (v:Value) (b:Nat):Prop:=b<w.heap.size/\b≠fb/\v.ownBlock≠some b
def Kp.eff {fb:Nat} {w w':wD} {v f:Value} {b:Nat} (h:Kp fb w v b) (k:Eff fb w v w' f):Kp fb w' f b:=by
 have:=k.fr.size;refine ⟨by have:=h.1;omega,h.2.1,fun e=>?_⟩;rcases k.new b e with e|e
 . exact h.2.2 e
 . have:=h.1;omega
def Kp.grow {fb:Nat} {w w':wD} {v:Value} {b:Nat} (h:Kp fb w v b) (f:w.heap.size<=w'.heap.size):Kp fb w' v b:=⟨Nat.lt_of_lt_of_le h.1 f,h.2⟩
def Kp.not {fb:Nat} {w:wD} {v:Value} {b:Nat} (h:Kp fb w v b) : ¬(b=fb\/v.ownBlock=some b):=fun e=>e.elim h.2.1 h.2.2
def FS.ext {c fb m:Nat} {w w':wD} {v:Value} (h:FS c fb m w v) (x:Ext w w'):FS c fb m w' v:=⟨h.cell.ext x,h.own.ext x,h.ne,kW h.le x.size⟩
instance {c fb m:Nat} {w w':wD} {v:Value}:LfE w w' (FS c fb m w v) (FS c fb m w' v):=⟨fun x h=>Bk.FS.ext h x⟩
def FS.fr {c fb m:Nat} {S:nP} {w w':wD} {v:Value} (h:FS c fb m w v) (x:Fr S w w') (f : ∀k,S k->k≠fb/\v.ownBlock≠some k):FS c fb m w' v:=⟨h.cell.fr x (fun e=>(f _ e).1 rfl),h.own.fr x (fun k E=>⟨id,(f k E).2⟩),h.ne,kW h.le x.size⟩
instance {c fb m:Nat} {S:nP} {w w':wD} {v:Value}:LfF S w w' (FS c fb m w v) (∀k,S k->k≠fb/\v.ownBlock≠some k) (FS c fb m w' v):=⟨fun x s h=>Bk.FS.fr h x s⟩
def RepR (c fb m:Nat) (w:wD) (v:Value):Ending->wD->Prop:=fun e w'=>e = .returned (.tuple #[]) /\ ∃v',FS c fb m w' v'/\Fr (fun k=>k=fb\/v.ownBlock=some k) w w' /\ ∀g,v'.ownBlock=some g->v.ownBlock=some g\/w.heap.size<=g
def RepR.ret {c fb m:Nat} {w:wD} {v:Value} {e:Ending} {w':wD} (h:RepR c fb m w v e w') : ∃v,e = .returned v:=⟨_,h.1⟩
def Jd (c fb m:Nat) (v:Value) (p Y:Int) (s:lB) (S:nP) (pa:oA) (pn pc:Nat) (w:wD) (hm:m<=1000000000) (hn:pn<=1000000) (Z:PathAt S w pa pn pc) (hf:FS c fb m w v) :
 Calls prog 87 #[.int .i64 p,.slice pa pn pc,str s,.int .i64 Y,.pointer (some ⟨fb,0,none⟩)] w (RepR c fb (m+TA Y) w v):=by
 obtain ⟨M,V,ac,hc⟩:=hf;have HC:=kh (fun (w:wD) (h:PathAt S w pa pn pc)=>h.clone hn);have X:=lN w;by_cases he:Y=0
 . subst he;have e0:m+TA 0=m:=rfl;rw [e0];refine Ae func87 ntmps87 rfl rfl ?_;refine cS (C1 Mv (C1 V2 (cT (Ij (Av (Bt rfl ?_))))));exact ⟨rfl,v,⟨M,V,ac,by have:=X.size;omega⟩,(Eff.of_ext X).fr,fun _ h=>kj h⟩
 . have e1:TA Y=1:=At he;rw [e1];have ad : ∀g,v.ownBlock=some g->g<w.heap.size/\g≠fb:=fun g hg=>⟨V.lt hg,fun e=>ac (e▸hg)⟩
   have a2:=M.lt;have ae:kV m ()++[()]=kV (m+1) ():=by rw [List.replicate_succ']
   have ak:(kV m ()).length<=1000000000:=by simp;omega
   have N:=mb (fun k=>k=fb\/v.ownBlock=some k) w;refine Ae func87 ntmps87 rfl rfl ?_;refine eK ?_;refine AE (fun wz=>Ext w wz) 8 (.pure 0 (.pure 1 (.pure 2 (.pure 4 (.pure 5 (.fork 3 (.pure 6 (.fork 7 .tail .none)) .none)))))) mixed BD An ?_;intro ai af _;have f:(fun wz=>Ext w wz) ai:=af;simp only at f;have al:=Z;have am:=M;have an:=V;revert Z M V X N;refine eY af ?_;intro a3 Z M V X N;refine ⟨f,?_⟩;refine eT ?_;refine tC rfl rfl (HC.out _ Af) ?_;rintro _ a4 ⟨a5,⟨a6,⟨⟨⟩,aj⟩⟩⟩;revert f Z M V X N;refine eY aj ?_;intro ao f Z M V X N;refine ⟨f,?_⟩;refine Tq rfl (xB [_,_,_,_]) ?_;refine A1 rfl (xS [_,_,_,_]) rfl ?_ aFh A9;rintro _ ap ⟨aq,rfl,E,ar⟩;have F:=E.blk;have ag:=E.ext;have au:=E.pos;have av:=E.size;revert f Z M V X N;refine eE ag ?_;intro f Z M V X N;refine ⟨f,?_⟩;refine AI rfl ?_;refine Au (KL (R:=fun _=>False) (sh:=I5 4) (z:=()) Ab C9 rfl rfl rfl rfl BD rfl rfl rfl Af (fun _ h=>by exact h) (l8 Af) ⟨rfl,rfl⟩ Aa Aa) rfl ?_ aFh;rintro _ aw ⟨O,⟨ah,⟨rfl,⟨aa,⟨U,⟨ax,L⟩⟩⟩⟩⟩⟩;have ay:=L.size;have F:=lW F L (fun h=>by have:=ad _ h;omega);clear Z;have M:=lW M L (fun h=>by have:=ad _ h;omega);clear V;have N:=Fr.fr N L (fun k hk=>kj (kp hk));refine eS [_] M ?_;intro az a0 ab a1;clear M;have aa:=OwnQ.fr aa ab (fun k hk=>⟨id,fun e=>by (obtain rfl:=kG (show some O=some k from e);rcases U with h|h;have:=ad _ h;omega;omega)⟩);revert F N;refine eF ab ?_;intro F N;refine Ah (Bt rfl ?_)
   have a7:=N.size;refine ⟨rfl,_,⟨Af,by rw [<-ae];assumption,fun e=>?_,Aa⟩,N,fun g hg=>?_⟩
   . obtain rfl:=kG (show some O=some fb from e);rcases U with h|h
     . exact ac h
     . omega
   obtain rfl:=kG (show some O=some g from hg);rcases U with h|h
   . exact kj h
   . exact kp Aa
def YR (c fb:Nat) (rf:FuncId) (ca:lV) (E:wD->Value->Prop):Prop:=
 (∀w v w' v',E w v->Eff fb w v w' v'->E w' v') /\
 ∀(m:Nat) (v:Value) (err:Int) (s:lB) (S:nP) (pa:oA) (pn pc:Nat) (w:wD),m<=1000000000->pn<=1000000->PathAt S w pa pn pc->FS c fb m w v->E w v ->
  Calls prog rf ([.slice pa pn pc,str s,.int .i64 err]++ca).toArray w (RepR c fb (m+TA err) w v)
def NB (fb:Nat):Value:=.func (.func 87) #[] #[.pointer (some ⟨fb,0,none⟩)]
def WT (c fb E F:Nat) (i:Int):YR c fb 92 [.pointer (some ⟨E,0,none⟩),.pointer (some ⟨F,0,none⟩)] (fun w v=>Blk w E [NB fb]/\Blk w F [.int .i64 i]/\Kp fb w v E/\Kp fb w v F):=by
 refine ⟨fun w v w' v' ⟨h1,L,h3,M⟩ k=>⟨h1.fr k.fr h3.not,L.fr k.fr M.not,h3.eff k,M.eff k⟩,?_⟩;rintro m v f s S O U V w hm hn X Y ⟨h1,L,-,-⟩;have HR:=kh (Jd c fb m v i f s S O U V w hm hn X Y);unfold NB at h1;clear X Y;show Calls prog 92 #[.slice O U V,str s,.int .i64 f,.pointer (some ⟨E,0,none⟩),.pointer (some ⟨F,0,none⟩)] w _;have N:=mb (fun k=>k=fb\/v.ownBlock=some k) w;refine Ae func92 ntmps92 rfl rfl ?_;refine eK ?_;refine Au (BU (fi:=[]) (ca:=[.pointer (some ⟨fb,0,none⟩)]) BD rfl rfl HR.out (fun _ _ h=>h.ret)) rfl ?_ aFh;rintro _ w5 ⟨⟨⟩,⟨aa,⟨L,⟨Z,M⟩⟩⟩⟩;have z6:=Z.size;have N:=Fr.fr N Z (fun k hk=>kj hk);refine Ah (Bt rfl ?_);exact ⟨rfl,_,Af,N,Af⟩
def WU (c fb E F:Nat) (g:PG) (va:oA) (vc:Nat) (L:oA) (M:Nat) (ma:oA) (mc:Nat):YR c fb 93 [.pointer (some ⟨E,0,none⟩),.pointer (some ⟨F,0,none⟩)] (fun w v=>Blk w E [NB fb]/\Blk w F (g.cells va vc L M ma mc)/\Kp fb w v E/\Kp fb w v F):=by
 refine ⟨fun w v w' v' ⟨h1,N,h3,O⟩ k=>⟨h1.fr k.fr h3.not,N.fr k.fr O.not,h3.eff k,O.eff k⟩,?_⟩;rintro m v f s S V X Y w hm hn Z hf ⟨h1,N,-,-⟩;have HR:=kh (Jd c fb m v g.procs.length f s S V X Y w hm hn Z hf);unfold NB at h1;clear Z hf;show Calls prog 93 #[.slice V X Y,str s,.int .i64 f,.pointer (some ⟨E,0,none⟩),.pointer (some ⟨F,0,none⟩)] w _;have U:=mb (fun k=>k=fb\/v.ownBlock=some k) w;refine Ae func93 ntmps93 rfl rfl ?_;refine eK ?_;refine Au (BU (fi:=[]) (ca:=[.pointer (some ⟨fb,0,none⟩)]) BD rfl rfl HR.out (fun _ _ h=>h.ret)) rfl ?_ aFh;rintro _ w5 ⟨⟨⟩,⟨aa,⟨N,⟨f3,O⟩⟩⟩⟩;have z6:=f3.size;have U:=Fr.fr U f3 (fun k hk=>kj hk);refine Ah (Bt rfl ?_);exact ⟨rfl,_,Af,U,Af⟩
def Q6 (e:Int):TA e<=1:=by unfold TA;split<;>omega
def NC (f:List PD) (v:List VD) (s:lB) (m:Nat) : ∀(l:List Nd) (i:Nat),GY f v s m i l<=l.length
 | [],_=>by simp [GY]
 | t::r,i=>by
  have:=Q6 (RE f v s m i t.name);have:=NC f v s m r (i+1);simp only [GY,kf];omega
mutual
def Ui (ps:List PD) : ∀(t:Nd) (v:List VD),t.flt ps v<=t.size
 | .mk k n s l,v=>by
  have h1:=Q6 (DT ps v k s l.length);have h2:=NC ps v s l.length l 0;have h3:=Dq l;have h4:=Lz ps l v k s 0;simp only [Nd.flt,lR];split<;>omega
def Lz (ps:List PD) : ∀(l:List Nd) (v:List VD) (k:Int) (s:lB) (i:Nat),Fd ps v k s i l<=Aj l
 | [],_,_,_,_=>by simp [Fd]
 | t::r,v,k,s,i=>by
  have:=Ui ps t (D6 k s i v);have:=Lz ps r v k s (i+1);simp only [Fd,Aj];omega
end
def Md (f:List PD) (v:List VD) (k:Int) (s:lB) : ∀(l:List Nd) (j i:Nat) (h:j<l.length),Fd f v k s i (l.take (j+1))=Fd f v k s i (l.take j)+(l[j]).flt f (D6 k s (i+j) v)
 | t::r,0,i,_=>by simp [Fd]
 | t::r,j+1,i,h=>by
  simp only [lo,Fd,km];rw [Md f v k s r j (i+1) (by simpa using h)];rw [show i+1+j=i+(j+1) by omega];omega
def ND (f:List PD) (v:List VD) (s:lB) (m:Nat) : ∀(l:List Nd) (j i:Nat) (h:j<l.length),GY f v s m i (l.take (j+1))=GY f v s m i (l.take j)+TA (RE f v s m (i+j) (l[j]).name)
 | t::r,0,i,_=>by simp [GY]
 | t::r,j+1,i,h=>by
  simp only [lo,GY,km];rw [ND f v s m r j (i+1) (by simpa using h)];rw [show i+1+j=i+(j+1) by omega];omega
def JP : ∀(l:List Nd) {j:Nat} (h:j<l.length),Aj (l.take j)+l[j].size<=Aj l
 | t::r,0,_=>by simp [Aj]
 | t::r,j+1,h=>by
  have:=JP r (j:=j) (by simpa using h);simp only [lo,Aj,km];omega
set_option maxHeartbeats 8000000 in
def Sy (c fb:Nat) (dy:c<=fb) (rf:FuncId) (ca:lV) (bt:F1 prog rf=true) (E:wD->Value->Prop) (hR:YR c fb rf ca E) (g:PG) (hg:g.procs.length<=1000000) (va:oA) (vc:Nat) (pa:oA) (pc:Nat) (ma:oA) (mc:Nat) (N:Nat) :
 ∀(t:Nd) (vs:List VD) (Sv Sp:nP) (ta:oA) (tc:Nat) (la:oA) (lc:Nat) (qa:oA) (qn qc:Nat) (w:wD) (v:Value) (m:Nat),t.size<N->vs.length+t.size<=1000000->qn+t.size<=1000000->m+t.size<=1000000000->t.sits (· < c) w ta->PDs (· < c) w g.procs pa->VDs Sv w vs la->vs.length<=lc->PathAt Sp w qa qn qc->(∀b,Sv b->Kp fb w v b)->(∀b,Sp b->Kp fb w v b)->FS c fb m w v->E w v ->
  Calls prog 91 #[.agg (g.cells va vc pa pc ma mc).toArray,t.val ta tc,.slice qa qn qc,.slice la vs.length lc,.func (.func rf) #[] ca.toArray] w (RepR c fb (m+t.flt g.procs vs) w v):=by
 induction N with
 | zero=>intro t vs Sv Sp ta tc la lc qa qn qc w v m h;omega
 | succ N ih=>
  rintro ⟨k,n,s,l⟩ vs Sv Sp ta tc la lc qa qn qc w v m hN cp cq cr O f F bh L bi bj hF hE;have hz:(Nd.mk k n s l).size=1+Aj l:=by rw [lR]
  have c6:=Dq l;rw [hz] at hN cp cq cr;have IH:=kh ih;have au:=kh hR.1;have bu:=kh hR.2;have ba : ∀b,Sv b -> ¬(b=fb\/v.ownBlock=some b):=fun b U=>(bi b U).not
  have bb : ∀b,Sp b -> ¬(b=fb\/v.ownBlock=some b):=fun b U=>(bj b U).not
  have al : ∀g,v.ownBlock=some g->c<=g/\g<w.heap.size:=fun g hg=>⟨hF.own.ge hg,hF.own.lt hg⟩
  have dz:=hF.cell.lt;have av:=kh bi;have a5:=kh bj;have bv:=kh (bK g hg k n s l ta tc vs Aa (· < c) Sv va vc pa pc ma mc la lc);have bc:=kh (fun (w':wD) (x:Ext w w') (p:PathAt Sp w' qa qn qc)=>bu.out m v (DT g.procs vs k s l.length) s Sp qa qn qc w' Aa Aa p (hF.ext x) (au.out _ _ _ _ hE (Eff.of_ext x)));have bk:=kh hE;clear ih hR bi bj hE hF;have X:=lN w;have X2:=mb (fun k=>k=fb\/v.ownBlock=some k) w;have O:=Fz O;show Calls prog 91 #[.agg (g.cells va vc pa pc ma mc).toArray,.agg #[.int .u8 k,.int .i64 n,str s,.slice ta l.length tc],.slice qa qn qc,.slice la vs.length lc,.func (.func rf) #[] ca.toArray] w _;refine Ae func91 ntmps91 rfl rfl ?_;refine cS (eB [_,_,_,_,_,_] ?_);intro b1 w2 V x5 p6 z7;revert f F L X X2 O;refine eE x5 ?_;intro f F L X X2 O;refine eB [_,_,_,_] ?_;intro b8 w9 M ct d0 d1;revert V f F L X X2 O;refine eE ct ?_;intro V f F L X X2 O;refine eK ?_;refine AE (fun wz=>Ext w9 wz) 8 (.pure 0 (.pure 1 (.pure 2 (.pure 3 (.pure 4 (.pure 5 (.pure 6 (.fork 7 .tail .none)))))))) mixed BD (Ac An) ?_;intro cu bw _;have ah:(fun wz=>Ext w9 wz) cu:=bw;simp only at ah;have af:=M;have ai:=V;have aw:=f;have ax:=F;have ay:=L;have bd:=O;revert M V f F L X X2 O;refine eY bw ?_;intro d2 M V f F L X X2 O;refine ⟨ah,?_⟩;refine eT ?_;refine Tq rfl (xL [_,_,_,_,_,_] (fun wz hz=>(l7 ai hz))) (Tq rfl (xL [_,_,_,_] (fun wz hz=>(l7 af hz))) (Tq rfl Mv ?_));refine tC rfl rfl (bv.out _ Af Af) ?_;rintro _ d3 ⟨⟨⟩,cv⟩;revert ah M V f F L X X2 O;refine eY cv ?_;intro z22 ah M V f F L X X2 O;refine ⟨ah,?_⟩;refine AI rfl ?_;refine Au (BU (fi:=[]) (ca:=ca) bt rfl rfl (bc.out _ Af Af) (fun _ _ h=>h.ret)) rfl ?_ aFh
  rintro _ a6 ⟨⟨⟩,⟨an,⟨a7,⟨aj,a8⟩⟩⟩⟩;have d4:=aj.size;have M:=lW M aj (fun h=>by (rcases h with h|h;omega;have:=al _ h;omega));have V:=lW V aj (fun h=>by (rcases h with h|h;omega;have:=al _ h;omega));have f:=PDs.fr f aj (fun b U h=>by (rcases h with h|h;omega;have:=al _ h;omega));have F:=mv F aj (ba);have L:=PathAt.fr L aj (bb);have X2:=Fr.fr X2 aj (fun k hk=>kj hk);have O:=mB O aj (fun b U h=>by (rcases h with h|h;omega;have:=al _ h;omega));refine cT (Al ?_);have e1:Eff fb w v a6 an:=⟨X2,fun g hg=>(a8 g hg).imp id fun h=>by omega⟩;have k1:Kp fb a6 an b1:=⟨V.lt,Aa,fun e=>by rcases a8 _ e with h|h;(have:=al _ h;omega);omega⟩;have k8:Kp fb a6 an b8:=⟨M.lt,Aa,fun e=>by rcases a8 _ e with h|h;(have:=al _ h;omega);omega⟩;have EE:=kh (au.out);have bx:=kh (au.out _ _ _ _ bk.out e1);have be:(Nd.mk k n s l).flt g.procs vs=TA (DT g.procs vs k s l.length)+(if k=50\/k=51 then GY g.procs vs s l.length 0 l else Fd g.procs vs k s 0 l):=by rw [Nd.flt]
  rw [be];have d5:=Q6 (DT g.procs vs k s l.length);clear be;generalize TA (DT g.procs vs k s l.length)=m0 at *;clear bc bv ba bb al a8 X2;generalize an=v1 at *;refine KG (ι:=Unit) (fun _=>[(2,.slice qa qn qc),(3,.slice la vs.length lc),(4,.func (.func rf) #[] ca.toArray),(5,.pointer (some ⟨b1,0,none⟩)),(6,.pointer (some ⟨b8,0,none⟩)),(30,.bool (decide (k=50\/k=51)))]) (fun _ w'=>w'=a6) ?_ ?_
  . focus
     refine eK ?_;refine DG rfl rfl rfl (fun cw=>?_) (fun cw=>?_);refine Wa (Wa (Wa (C1 ZO (Ah ?_))));rotate_left;refine dT (C1 Pg (dT (C1 (Pl M) (dT (C1 V1 (C1 XT (Ah ?_)))))));rotate_left
    all_goals exact Cq () (Am rfl (Am rfl (Am rfl (Am rfl (Am rfl (Bj rfl (congrArg Value.bool (by first|exact (decide_eq_true Aa).symm|exact decide_eq_decide.2 Aa)) BB)))))) rfl
  rintro-w0 h;subst h;by_cases hk:k=50\/k=51
  . rw [AH hk];clear IH;refine TH (Al (cS (C1 Pf (C1 (Pl M) (C1 Pz (C1 Mv (cT ?_)))))));refine Ax ?_;refine AM (ι:=Nat×Value) (fun x=>[(2,.slice qa qn qc),(3,.slice la vs.length lc),(4,.func (.func rf) #[] ca.toArray),(5,.pointer (some ⟨b1,0,none⟩)),(6,.pointer (some ⟨b8,0,none⟩)),(32,.slice ta l.length tc),(33,.int .i64 l.length),(34,.int .i64 x.1)])
     (fun x w'=>x.1<=l.length/\FS c fb (m+m0+GY g.procs vs s l.length 0 (l.take x.1)) w' x.2/\Eff fb w v w' x.2/\Kp fb w' x.2 b1/\Kp fb w' x.2 b8/\Blk w' b8 [.int .u8 k,.int .i64 n,str s,.slice ta l.length tc]/\Blk w' b1 (g.cells va vc pa pc ma mc)/\PDs (· < c) w' g.procs pa/\VDs Sv w' vs la/\PathAt Sp w' qa qn qc/\rowSits (· < c) w' l ta)
     (fun x=>l.length-x.1) (0,v1) sB ⟨kC _,a7,e1,k1,k8,M,V,f,F,L,O⟩ ?_
    clear a7 e1 k1 k8 M V f F L O bx;rintro ⟨j,vj⟩ w3 ⟨hj,hF,e3,k1,k8,M,V,f,F,L,O⟩;simp only at hj hF e3 k1 k8 M V f F L O;by_cases ag:j<l.length
    . have Y : ∀g,vj.ownBlock=some g->c<=g/\g<w3.heap.size/\g≠b1/\g≠b8:=fun g hg=>⟨hF.own.ge hg,hF.own.lt hg,fun e=>k1.2.2 (e▸hg),fun e=>k8.2.2 (e▸hg)⟩
      have az : ∀b,Sv b -> ¬(b=fb\/vj.ownBlock=some b):=fun b U=>((av.out b U).eff e3).not
      have a0 : ∀b,Sp b -> ¬(b=fb\/vj.ownBlock=some b):=fun b U=>((a5.out b U).eff e3).not
      have a1 : ∀b,Sv b->b<w3.heap.size:=fun b U=>((av.out b U).eff e3).1
      have a2 : ∀b,Sp b->b<w3.heap.size:=fun b U=>((a5.out b U).eff e3).1
      have bm:=k1.not;have bn:=k8.not;have cx:=k1.1;have cy:=k8.1;have bz:=hF.cell.lt;have bo:=kh (EE.out _ _ _ _ bk.out e3);have b0:=NC g.procs vs s l.length (l.take j) 0;rw [kU] at b0;have am:=ND g.procs vs s l.length l j 0 ag;rw [Nat.zero_add] at am;obtain ⟨kb,ko,rfl,kS,ak⟩:=Bx O (by intro e;subst e;simp at ag);obtain ⟨xa,xc,rx,-⟩:=ak j l[j] (kg ag);have b2:=kh (Sx g hg k n s l Aa j ag vs Aa);have a3:=kh (fun (w':wD) (x:Ext w3 w') (S:nP) (pa:oA) (pn pc:Nat) (hp:pn<=1000000) (p:PathAt S w' pa pn pc)=>bu.out (m+m0+GY g.procs vs s l.length 0 (l.take j)) vj (RE g.procs vs s l.length j l[j].name) l[j].name S pa pn pc w' Aa hp p (hF.ext x) (au.out _ _ _ _ bo.out (Eff.of_ext x)));have E3:=kh e3;clear ak hF e3;have a4:m+m0+GY g.procs vs s l.length 0 (l.take (j+1))=m+m0+GY g.procs vs s l.length 0 (l.take j)+TA (RE g.procs vs s l.length j l[j].name):=by rw [am];omega
      rw [<-a4] at a3;clear am a4;generalize l[j]=x at *;generalize RE g.procs vs s l.length j x.name=ex at *;have X3:=lN w3;have X4:=mb (fun k=>k=fb\/vj.ownBlock=some k) w3;refine eK ?_;refine eA [_,_,_,_] ?_;intro d6 d7 cz c0 d8 d9;revert V f F L M O rx X3 X4;refine eE c0 ?_;intro V f F L M O rx X3 X4;refine C1 Pa (eS [_,_,_,_] cz ?_);intro b3 ad ao c7;revert V f;refine eF ao ?_;intro V f;have F:=mv F ao (fun b U e=>by have:=a1 b U;omega);have L:=PathAt.fr L ao (fun b U e=>by have:=a2 b U;omega);revert M O rx X3 X4;refine eF ao ?_;intro M O rx X3 X4;refine cT (AE (fun wz=>Ext b3 wz) 11 (.pure 0 (.pure 1 (.pure 2 (.pure 4 (.pure 5 (.pure 6 (.pure 7 (.pure 8 (.pure 9 (.fork 3 (.fork 10 .tail .none) .none)))))))))) mixed BD (Ak (Ac (Ac (Ak (Ac (Ac An)))))) ?_);intro b4 bf _;have Z:(fun wz=>Ext b3 wz) b4:=bf;simp only at Z;have co:=ad;have ai:=V;have aw:=f;have ax:=F;have ay:=L;have af:=M;have bd:=O;have b5:=rx;revert ad V f F L M O rx X3 X4;refine eY bf ?_;intro c8 ad V f F L M O rx X3 X4;refine ⟨Z,?_⟩;refine eT ?_;refine Tq rfl (xL [_,_,_,_,_,_] (fun wz hz=>(l7 ai hz))) (Tq rfl (xL [_,_,_,_] (fun wz hz=>(l7 af hz))) (Tq rfl Mv (Tq rfl Mv ?_)));refine tC rfl rfl (Vs _ _ _ _ _ _ Aa Af) ?_
      rintro _ c9 ⟨da,⟨db,⟨⟨⟩,⟨ap,b6⟩⟩⟩⟩;revert Z ad V f F L M O rx X3 X4;refine eY b6 ?_;intro dc Z ad V f F L M O rx X3 X4;refine ⟨Z,?_⟩;refine tC rfl rfl (b2.out _ _ _ _ _ _ _ _ _ _ _ _ _ _ Af Af Af) ?_;rintro _ dd ⟨⟨⟩,b7⟩;revert ap Z ad V f F L M O rx X3 X4;refine eY b7 ?_;intro de ap Z ad V f F L M O rx X3 X4;refine ⟨Z,?_⟩;refine AI rfl ?_;refine Au (BU (fi:=[]) (ca:=ca) bt rfl rfl (a3.out _ Af _ _ _ _ Aa Af) (fun _ _ h=>h.ret)) rfl ?_ aFh;rintro _ b9 ⟨⟨⟩,⟨bp,⟨cb,⟨ac,cc⟩⟩⟩⟩;have df:=ac.size;have ap:=PathAt.fr ap ac (fun b U h=>by (rcases h with h|h;omega;have:=Y _ h;omega));have ad:=lW ad ac (fun h=>by (rcases h with h|h;omega;have:=Y _ h;omega));have V:=lW V ac (bm);have f:=PDs.fr f ac (fun b U h=>by (rcases h with h|h;omega;have:=Y _ h;omega));have F:=mv F ac (az);have L:=PathAt.fr L ac (a0);have M:=lW M ac (bn);have O:=mB O ac (fun b U h=>by (rcases h with h|h;omega;have:=Y _ h;omega));clear rx;have X4:=Fr.fr X4 ac (fun k hk=>kj hk);refine Ah (Ad (Ai (Ag (C1 V7 (C1 Mv (Ah ?_))))));have e4:Eff fb w3 vj b9 bp:=⟨X4,fun g hg=>(cc g hg).imp id fun h=>by omega⟩
      exact Ay (j+1,_) sB ⟨by simp only;omega,cb,E3.out.trans e4,k1.eff e4,k8.eff e4,M,V,f,F,L,O⟩ (by simp only;omega)
    . obtain rfl:j=l.length:=by omega
      rw [kE] at hF;refine eK ?_;refine ZQ rfl ?_;rw [<-Nat.add_assoc];exact ⟨rfl,vj,hF,e3.fr,e3.new⟩
  . rw [At hk];refine TG (Av (Ai (cS (C1 Pf (C1 (Pl M) (C1 Pz (C1 Mv (cT ?_))))))));refine Ax ?_;refine AM (ι:=Nat×Value) (fun x=>[(2,.slice qa qn qc),(3,.slice la vs.length lc),(4,.func (.func rf) #[] ca.toArray),(5,.pointer (some ⟨b1,0,none⟩)),(6,.pointer (some ⟨b8,0,none⟩)),(53,.slice ta l.length tc),(54,.int .i64 l.length),(55,.int .i64 x.1)])
     (fun x w'=>x.1<=l.length/\FS c fb (m+m0+Fd g.procs vs k s 0 (l.take x.1)) w' x.2/\Eff fb w v w' x.2/\Kp fb w' x.2 b1/\Kp fb w' x.2 b8/\Blk w' b8 [.int .u8 k,.int .i64 n,str s,.slice ta l.length tc]/\Blk w' b1 (g.cells va vc pa pc ma mc)/\PDs (· < c) w' g.procs pa/\VDs Sv w' vs la/\PathAt Sp w' qa qn qc/\rowSits (· < c) w' l ta)
     (fun x=>l.length-x.1) (0,v1) sB ⟨kC _,a7,e1,k1,k8,M,V,f,F,L,O⟩ ?_
    clear a7 e1 k1 k8 M V f F L O bx;rintro ⟨j,vj⟩ w3 ⟨hj,hF,e3,k1,k8,M,V,f,F,L,O⟩;simp only at hj hF e3 k1 k8 M V f F L O;by_cases ag:j<l.length
    . have Y : ∀g,vj.ownBlock=some g->c<=g/\g<w3.heap.size/\g≠b1/\g≠b8:=fun g hg=>⟨hF.own.ge hg,hF.own.lt hg,fun e=>k1.2.2 (e▸hg),fun e=>k8.2.2 (e▸hg)⟩
      have az : ∀b,Sv b -> ¬(b=fb\/vj.ownBlock=some b):=fun b U=>((av.out b U).eff e3).not
      have a0 : ∀b,Sp b -> ¬(b=fb\/vj.ownBlock=some b):=fun b U=>((a5.out b U).eff e3).not
      have a1 : ∀b,Sv b->b<w3.heap.size:=fun b U=>((av.out b U).eff e3).1
      have a2 : ∀b,Sp b->b<w3.heap.size:=fun b U=>((a5.out b U).eff e3).1
      have bm:=k1.not;have bn:=k8.not;have cx:=k1.1;have cy:=k8.1;have bz:=hF.cell.lt;have dg:=hF.le;have bo:=kh (EE.out _ _ _ _ bk.out e3);have ea:=Lz g.procs (l.take j) vs k s 0;have am:=Md g.procs vs k s l j 0 ag;rw [Nat.zero_add] at am;have eb:=JP l ag;obtain ⟨kb,ko,rfl,kS,ak⟩:=Bx O (by intro e;subst e;simp at ag);obtain ⟨xa,xc,rx,sx⟩:=ak j l[j] (kg ag);have dh:(D6 k s j vs).length<=vs.length+1:=by unfold D6;split<;>(try split)<;>simp
      have HV:=kh (fun (w':wD) (x:Ext w3 w') (bq br:nP) (cd:oA) (ce:Nat) (cf:oA) (cg:Nat) (O:(l[j]).sits (· < c) w' xa) (f:PDs (· < c) w' g.procs pa) (F:VDs bq w' (D6 k s j vs) cd) (bh:(D6 k s j vs).length<=ce) (L:PathAt br w' cf (qn+1) cg) (c1 : ∀b,bq b->Sv b\/(w3.heap.size<=b/\b<w'.heap.size)) (c2 : ∀b,br b->w3.heap.size<=b/\b<w'.heap.size)=>
       IH.out l[j] (D6 k s j vs) bq br xa xc cd ce cf (qn+1) cg w' vj (m+m0+Fd g.procs vs k s 0 (l.take j)) Aa Aa Aa Aa O f F bh L
        (fun b U=>by
         rcases c1 b U with h|h
         . exact ((av.out b h).eff e3).eff (Eff.of_ext x)
         . exact ⟨h.2,Aa,fun e=>by have:=Y _ e;omega⟩)
        (fun b U=>by have h:=c2 b U;exact ⟨h.2,Aa,fun e=>by have:=Y _ e;omega⟩) (hF.ext x) (au.out _ _ _ _ bo.out (Eff.of_ext x)))
      have a4:m+m0+Fd g.procs vs k s 0 (l.take (j+1))=m+m0+Fd g.procs vs k s 0 (l.take j)+(l[j]).flt g.procs (D6 k s j vs):=by rw [am];omega
      rw [<-a4] at HV;have c3:=kh (bJ k n s l (some ⟨kb,ko,none⟩) tc j vs Aa Sv la lc);have E3:=kh e3;clear ak hF e3 am a4;generalize D6 k s j vs=ec at *;generalize l[j]=x at *;have X3:=lN w3;have X4:=mb (fun k=>k=fb\/vj.ownBlock=some k) w3;refine eK ?_;refine eA [_,_,_,_] ?_;intro ed ee c4 c5 ef eg;revert V f F L M O rx sx X3 X4;refine eE c5 ?_;intro V f F L M O rx sx X3 X4;refine C1 Pa (eS [_,_,_,_] c4 ?_);intro ch ae aq di;revert V f;refine eF aq ?_;intro V f;have F:=mv F aq (fun b U e=>by have:=a1 b U;omega);have L:=PathAt.fr L aq (fun b U e=>by have:=a2 b U;omega);revert M O rx sx X3 X4;refine eF aq ?_;intro M O rx sx X3 X4;refine cT (AE (fun wz=>Ext ch wz) 10 (.pure 0 (.pure 1 (.pure 2 (.pure 3 (.pure 5 (.pure 6 (.pure 7 (.pure 9 (.fork 4 (.fork 8 .tail .none) .none))))))))) mixed BD (Ak (Ac (Ac (Ak An)))) ?_);intro ci bg _;have aa:(fun wz=>Ext ch wz) ci:=bg;simp only at aa;have a9:=ae;have ai:=V;have aw:=f;have ax:=F;have ay:=L;have af:=M;have bd:=O;have b5:=rx;have dk:=sx;revert ae V f F L M O rx sx X3 X4;refine eY bg ?_;intro dl ae V f F L M O rx sx X3 X4;refine ⟨aa,?_⟩;refine Tq rfl (xL [_,_,_,_,_,_] (fun wz hz=>(l7 ai hz))) (Tq rfl (xL [_,_,_,_] (fun wz hz=>(l7 a9 hz))) (Tq rfl Mv (Tq rfl Mv (Tq rfl (xL [_,_,_,_] (fun wz hz=>(l7 af hz))) ?_))))
      refine eT ?_;refine tC rfl rfl (Vs _ _ _ _ _ _ Aa Af) ?_;rintro _ dm ⟨dn,⟨dp,⟨⟨⟩,⟨ar,cj⟩⟩⟩⟩;revert aa ae V f F L M O rx sx X3 X4;refine eY cj ?_;intro dq aa ae V f F L M O rx sx X3 X4;refine ⟨aa,?_⟩;refine tC rfl rfl (c3.out _ bh Af) ?_;rintro _ dr ⟨ds,⟨dt,⟨⟨⟩,⟨du,⟨dv,ck⟩⟩⟩⟩⟩;revert ar aa ae V f F L M O rx sx X3 X4;refine eY ck ?_;intro dw ar aa ae V f F L M O rx sx X3 X4;refine ⟨aa,?_⟩;refine AI rfl (cC rfl (HV.out _ Af _ _ _ _ _ _ Af Af Af Aa Af (by (intro b U;rcases U with U|U;exact kj U;exact kp ⟨Aa,Aa⟩)) (by (intro b U;exact ⟨Aa,Aa⟩))) ?_);rintro _ cl ⟨⟨⟩,⟨bs,⟨cm,⟨ab,cn⟩⟩⟩⟩;have dx:=ab.size;have ar:=PathAt.fr ar ab (fun b U h=>by (rcases h with h|h;omega;have:=Y _ h;omega));have ae:=lW ae ab (fun h=>by (rcases h with h|h;omega;have:=Y _ h;omega));have V:=lW V ab (bm);have f:=PDs.fr f ab (fun b U h=>by (rcases h with h|h;omega;have:=Y _ h;omega));have F:=mv F ab (az);have L:=PathAt.fr L ab (a0);have M:=lW M ab (bn);have O:=mB O ab (fun b U h=>by (rcases h with h|h;omega;have:=Y _ h;omega));clear rx;have sx:=mo sx ab (fun b U h=>by (rcases h with h|h;omega;have:=Y _ h;omega));have X4:=Fr.fr X4 ab (fun k hk=>kj hk);refine Ah (Ad (Ai (Ag (C1 V7 (C1 Mv (Ah ?_))))))
      have e4:Eff fb w3 vj cl bs:=⟨X4,fun g hg=>(cn g hg).imp id fun h=>by omega⟩
      exact Ay (j+1,_) sB ⟨by simp only;omega,cm,E3.out.trans e4,k1.eff e4,k8.eff e4,M,V,f,F,L,O⟩ (by simp only;omega)
    . obtain rfl:j=l.length:=by omega
      rw [kE] at hF;refine cS (C1 V3 (cT (Al (E4 (DP (AQ (AQ (Bs (Bt rfl ?_)))))))));rw [<-Nat.add_assoc];exact ⟨rfl,vj,hF,e3.fr,e3.new⟩
def Je : ∀(l acc:List VD) (i:Nat) (h:i<l.length),C0 acc (l.take (i+1))=C0 acc (l.take i)+TA (F2 (acc++l.take i) (l[i]).name)
 | v::r,acc,0,_=>by simp [C0]
 | v::r,acc,i+1,h=>by
  simp only [lo,C0,km];rw [Je r (acc++[v]) i (by simpa using h)];simp only [kA,List.singleton_append];omega
def Gh : ∀(l acc:List VD),C0 acc l<=l.length
 | [],_=>by simp [C0]
 | v::r,acc=>by
  have:=Q6 (F2 acc v.name);have:=Gh r (acc++[v]);simp only [C0,kf];omega
def NE (ps:List PD) (i:Nat) (p:PD):Nat:=(if (Gr ps p.name).getD i<i then 1 else 0)+C0 [] p.params+p.body.flt ps p.params
def Me (f:List PD) : ∀(l:List PD) (i j:Nat) (h:j<l.length),Fe f i (l.take (j+1))=Fe f i (l.take j)+NE f (i+j) l[j]
 | p::r,i,0,_=>by simp [Fe,NE]
 | p::r,i,j+1,h=>by
  simp only [lo,Fe,km];rw [Me f r (i+1) j (by simpa using h)];rw [show i+1+j=i+(j+1) by omega];omega
def YS {f:List PD} {i:Nat} (h:i<f.length):decide (Jc f (f[i]).name<(i:Int))=decide ((Gr f (f[i]).name).getD i<i):=by
 unfold Jc;cases hq:Gr f (f[i]).name with
 | none=>
  exfalso;unfold Gr at hq;rw [List.findIdx?_eq_none_iff] at hq;have:=hq f[i] (kq h);simp at this
 | some j=>simp
def VD.ok (v:VD):Bool:=AS v.name&&if v.kind=1\/v.kind=3 then v.len==0 else if v.kind=2 then decide (1<=v.len)&&decide (v.len<=16) else false
def Dd (l:List VD):Bool:=l.all VD.ok
mutual
def Nd.lim:Nd->Int->Int->Bool×Int
 | .mk _ _ _ l,d,m=>if d=0\/m=0 then (false,m) else Ct l (d-1) (m-1)
def Ct:List Nd->Int->Int->Bool×Int
 | [],_,m=>(true,m)
 | t::r,d,m=>if (t.lim d m).1 then Ct r d (t.lim d m).2 else (false,(t.lim d m).2)
end
def D9 (t:Nd):Bool:=(t.lim 80 2000).1&&t.isBlock
def PD.ok (p:PD):Bool:=AS p.name&&decide (p.params.length<=8)&&Dd p.params&&D9 p.body
def PG.ok (g:PG):Bool:=decide (g.vars.length<=32)&&decide (g.procs.length<=64)&&Dd g.vars&&g.procs.all PD.ok&&D9 g.main
end Bk
namespace Bk
open Go Go.RowKit Go.Proofs
structure VD.wf (v:VD):Prop where
 name:v.name.length<=9223372036854775807
 k0:0<=v.kind
 k1:v.kind<=255
 l0 : -9223372036854775808<=v.len
 l1:v.len<=9223372036854775807
def Sz {l:List VD} {j:Nat} (h:j<l.length) (f:l[j].ok=false):Dd l=false:=by
 unfold Dd;rw [List.all_eq_false];exact ⟨l[j],kq h,by simp [f]⟩
def Uj {l:List VD} (h : ∀j (F:j<l.length),l[j].ok=true):Dd l=true:=by
 unfold Dd;rw [lG];intro x f;obtain ⟨i,E,rfl⟩:=List.mem_iff_getElem.1 f;exact h i E
def NF (l:List VD) (S:nP) (a:oA) (c:Nat) (w:wD) (hl:l.length<=9223372036854775807) (Z : ∀v∈l,v.wf) (hs:VDs S w l a) :
 Calls prog 85 #[.slice a l.length c] w fun e w'=>e = .returned (.bool (Dd l))/\Ext w w':=by
 refine Ae func85 ntmps85 rfl rfl ?_;refine eK ?_;refine AM (ι:=Nat) (fun j=>[(7,.int .i64 j),(6,.int .i64 l.length),(5,.slice a l.length c)]) (fun j w'=>Ext w w'/\j<=l.length /\ ∀i (M:i<l.length),i<j->l[i].ok=true) (fun j=>l.length-j) 0 sB ⟨lN _,Aa,Aa⟩ ?_;rintro j w1 ⟨x1,hj,N⟩;have Y:=kh N;clear N;by_cases U:j<l.length
 . obtain ⟨kb,ko,rfl,-,O⟩:=mq (hs.ext x1) Aa;have rx:Row w1 ⟨kb,ko+j*3,none⟩ l[j].cells:=O j l[j] (kg U);have wf:=Z l[j] (kq U);have aa:=wf.name;have HF:l[j].ok=false->Dd l=false:=Sz U;have V:=kh HF;clear HF O;generalize hv:l[j]=v at *;have HE:=kh hv;clear hv;refine eK ?_;refine Hi C9 rfl rfl ?_;intro b2 w2 E;refine Js Ab rfl rfl rfl rfl rfl rfl (E) rfl ?_;clear E w2;intro w2 E;have h2:=E.blk;have x2:=E.ext;refine eK ?_;refine cC rfl (Ip v.name _ aa) ?_;rintro _ w3 ⟨⟨⟩,x3⟩;have h:Ext w w3:=(by refine lQ ?_ Af;refine lQ ?_ Af;assumption);have h3:=h2.ext x3;cases hnm:AS v.name
   . try rw [hnm]
     refine C1 Pt (Ah (Ai (FR rfl (by rfl) ?_)));refine eK ?_;refine Bo results85 rfl ?_;exact ⟨AN (V.out (by simp [VD.ok,hnm])).symm,h⟩
   try rw [hnm]
   by_cases F:v.kind=1\/v.kind=3
   . by_cases h0:v.len=0
     . have f:v.ok=true:=by simp [VD.ok,hnm,F,h0]
       rcases F with F|F
       . refine C1 Pt (Ah (Ai (F3 rfl (by rfl) (Av (Ai (Al (Ag (C1 Pf (C1 Lg (Ah (Ai ?_)))))))))));refine Ax (Al (Al (Ag (C1 V1 (C1 Pa (Ah (Ai (TH (Av (Ai (TH ?_)))))))))));refine Al (Ag (C1 Pf (C1 Lg (C1 V2 (Ah (Ai (E4 (Av (Ad (Ad (Ai ?_)))))))))));refine Ag (C1 V7 (C1 Mv (Ah ?_)));refine Ay (j+1) sB ⟨h,Aa,fun i M X=>?_⟩ Aa;by_cases e:i=j
         . subst e;exact HE.out▸f
         . exact Y.out i M Aa
       . refine C1 Pt (Ah (Ai (F3 rfl (by rfl) (Av (Ai (Al (Ag (C1 Pf (C1 Lg (Ah (Ai ?_)))))))))));refine Ax (Al (Al (Ag (C1 V1 (C1 Pa (Ah (Ai (E4 (Ag (C1 V1 (C1 Pa ?_)))))))))));refine Ah (Ai (TH (Al (Ag (C1 Pf (C1 Lg (C1 V2 (Ah (Ai (E4 (Av ?_)))))))))));refine Ad (Ad (Ai (Ag (C1 V7 (C1 Mv (Ah ?_))))));refine Ay (j+1) sB ⟨h,Aa,fun i M X=>?_⟩ Aa;by_cases e:i=j
         . subst e;exact HE.out▸f
         . exact Y.out i M Aa
     . have f:v.ok=false:=by simp [VD.ok,hnm,F,h0]
       rcases F with F|F
       . refine C1 Pt (Ah (Ai (F3 rfl (by rfl) ?_)));refine eK ?_;refine Bo results85 rfl ?_;exact ⟨AN (V.out f).symm,h⟩
       . refine C1 Pt (Ah (Ai (F3 rfl (by rfl) ?_)));refine eK ?_;refine Bo results85 rfl ?_;exact ⟨AN (V.out f).symm,h⟩
   . have ab:v.kind≠1:=fun e=>F (kj e)
     have ac:v.kind≠3:=fun e=>F (kp e)
     by_cases L:v.kind=2
     . by_cases ad:v.len<1
       . have f:v.ok=false:=by simp [VD.ok,hnm,L];omega
         refine C1 Pt (Ah (Ai (F3 rfl (by rfl) (Av (Ai (Al (Ag (C1 Pf (C1 Lg (Ah (Ai ?_)))))))))));refine Ax (Al (Al (Ag (C1 V1 (C1 Pa (Ah (Ai (TG (Ag (C1 V1 (C1 Pa ?_)))))))))));refine Ah (Ai (TG (Al (Ag (C1 V1 (C1 Pa (Ah (Ai (TH (Al (Ag ?_)))))))))));refine C1 Pf (C1 Lg (C1 V3 (C1 Mv (BJ rfl rfl rfl Af rfl (BJ rfl rfl rfl Af rfl (BJ rfl rfl rfl Af rfl (C1 ZO (Ah (Ai (FR rfl (by rfl) ?_))))))))));refine eK ?_;refine Bo results85 rfl ?_;exact ⟨AN (V.out f).symm,h⟩
       . by_cases ae:16<v.len
         . have f:v.ok=false:=by simp [VD.ok,hnm,L];omega
           refine C1 Pt (Ah (Ai (F3 rfl (by rfl) (Av (Ai (Al (Ag (C1 Pf (C1 Lg (Ah (Ai ?_)))))))))));refine Ax (Al (Al (Ag (C1 V1 (C1 Pa (Ah (Ai (TG (Ag (C1 V1 (C1 Pa ?_)))))))))));refine Ah (Ai (TG (Al (Ag (C1 V1 (C1 Pa (Ah (Ai (TH (Al (Ag ?_)))))))))));refine C1 Pf (C1 Lg (C1 V3 (C1 Mv (Bg rfl rfl rfl Af (C1 Pf (Bg rfl rfl rfl Af (C1 Lg (Bg rfl rfl rfl Af ?_))))))));refine eK ?_;refine Bo results85 rfl ?_;exact ⟨AN (V.out f).symm,h⟩
         . have f:v.ok=true:=by simp [VD.ok,hnm,L];omega
           refine C1 Pt (Ah (Ai (F3 rfl (by rfl) (Av (Ai (Al (Ag (C1 Pf (C1 Lg (Ah (Ai ?_)))))))))));refine Ax (Al (Al (Ag (C1 V1 (C1 Pa (Ah (Ai (TG (Ag (C1 V1 (C1 Pa ?_)))))))))));refine Ah (Ai (TG (Al (Ag (C1 V1 (C1 Pa (Ah (Ai (TH (Al (Ag ?_)))))))))));refine C1 Pf (C1 Lg (C1 V3 (C1 Mv (Bg rfl rfl rfl Af (C1 Pf (Bg rfl rfl rfl Af (C1 Lg (Bg rfl rfl rfl Af (C1 V5 (C1 XT (Ah ?_)))))))))));refine Ai (TG (Av (Ad (Ad (Ai (Ag (C1 V7 (C1 Mv (Ah ?_)))))))));refine Ay (j+1) sB ⟨h,Aa,fun i M X=>?_⟩ Aa;by_cases e:i=j
           . subst e;exact HE.out▸f
           . exact Y.out i M Aa
     . have f:v.ok=false:=by simp [VD.ok,hnm,ab,L,ac]
       refine C1 Pt (Ah (Ai (F3 rfl (by rfl) ?_)));refine eK ?_;refine Bo results85 rfl ?_;exact ⟨AN (V.out f).symm,h⟩
 . refine eK ?_;refine Bo results85 rfl ?_;exact ⟨AN (Uj (fun i M=>Y.out i M Aa)).symm,x1⟩
mutual
def J7 : ∀(t:Nd) (d m:Int),0<=m->0<=(t.lim d m).2/\(t.lim d m).2<=m
 | .mk _ _ s l,d,m,hm=>by
  simp only [Nd.lim];split
  . exact ⟨hm,Int.le_refl _⟩
  . have:=PF l (d-1) (m-1) Aa;omega
def PF : ∀(l:List Nd) (d m:Int),0<=m->0<=(Ct l d m).2/\(Ct l d m).2<=m
 | [],d,m,hm=>by simp only [Ct];omega
 | t::r,d,m,hm=>by
  have h1:=J7 t d m hm;simp only [Ct];split
  . have:=PF r d (t.lim d m).2 h1.1;omega
  . omega
end
def SA (l:List Nd) (j:Nat) (h:j<l.length) (d m:Int):Ct (l.drop j) d m=if (l[j].lim d m).1 then Ct (l.drop (j+1)) d (l[j].lim d m).2 else (false,(l[j].lim d m).2):=by
 rw [lh h,Ct]
def WV (N:Nat) : ∀(t:Nd) (S:nP) (a:oA) (c:Nat) (d m:Int) (E:Nat) (w:wD),t.size<N->t.wf->0<=d->d<=1000000->0<=m->m<=1000000->t.sits S w a -> ¬S E->Blk w E [.int .i64 m] ->
 Calls prog 128 #[t.val a c,.int .i64 d,.pointer (some ⟨E,0,none⟩)] w fun e w'=>e = .returned (.bool (t.lim d m).1)/\Blk w' E [.int .i64 (t.lim d m).2]/\Fr (· = E) w w':=by
 induction N with
 | zero=>intro t S a c d m E w h;omega
 | succ N ih=>
  intro t S a c d m E w hN aa aq ar au av hs hS Z;have IH:=kh ih;clear ih;obtain ⟨k,n,s,l⟩:=t;simp only [Nd.wf,lR] at aa hN;simp only [Nd.val,Nd.kind,Nd.num,Nd.name,Nd.kids,Nd.lim];simp only [Nd.sits] at hs;obtain ⟨-,-,-,-,-,aw,ah⟩:=aa;have ap:=Z.lt;by_cases O:d=0\/m=0
  . rw [AH O];refine Ae func128 ntmps128 rfl rfl ?_;refine eK ?_;refine MT rfl rfl rfl ?_;intro b1 w1 f;have h1:=f.blk;have x1:=f.ext;have V:=Z.ext x1;by_cases hd:d=0
    . refine C1 Pa (Ah (Ai (Al (Al (Ag (C1 Mv (C1 V1 (C1 Mv (BJ rfl rfl rfl Af rfl (BJ rfl rfl rfl Af rfl (BJ rfl rfl rfl Af rfl ?_)))))))))));refine BJ rfl rfl rfl Af rfl (C1 ZO (Ah (Ai (FR rfl (by rfl) ?_))));refine eK ?_;refine Bo results128 rfl ?_;exact ⟨rfl,V,.of_ext x1⟩
    . have hm:m=0:=by omega
      refine C1 Pa (Ah (Ai (Al (Al (Ag (C1 Mv (C1 V1 (C1 Mv (Bg rfl rfl rfl Af (C1 Mv (Bg rfl rfl rfl Af ?_)))))))))));refine C1 Pn (Bg rfl rfl rfl Af (C1 Lg (Bg rfl rfl rfl Af ?_)));refine eK ?_;refine Bo results128 rfl ?_;exact ⟨rfl,V,.of_ext x1⟩
  . rw [At O];have hd:d≠0:=fun e=>O (kj e)
    have hm:m≠0:=fun e=>O (kp e)
    clear O;refine Ae func128 ntmps128 rfl rfl ?_;refine eK ?_;refine MT rfl rfl rfl ?_;intro b1 w1 f;have h1:=f.blk;have x1:=f.ext;have p1:=f.pos;have V:=Z.ext x1;have ai:=hs.ext x1;refine C1 Pa (Ah (Ai (Al (Al (Ag (C1 Mv (C1 V1 (C1 Mv (Bg rfl rfl rfl Af (C1 Mv (Bg rfl rfl rfl Af ?_)))))))))));refine C1 Pn (Bg rfl rfl rfl Af (C1 Lg (Bg rfl rfl rfl Af (C1 V1 (C1 XT (Ah (Ai (TG (Av (Ai (Al ?_)))))))))));refine Ag (C1 Mv (C1 Pn (C1 Lg (Ch (by exact CM rfl rfl (kN _ Aa)) rfl (C1 Pn (Kj Ab rfl rfl rfl rfl rfl rfl (V) rfl ?_))))));intro w2 F;have aj:Blk w2 E [.int .i64 (m-1)]:=F.blk;have h2:=h1.put F Aa;have ab:rowSits S w2 l a:=ai.fr F.fr (fun b Z e=>hS (e▸Z));have f2:Fr (· = E) w w2:=(Fr.of_ext x1).trans F.fr;have ax:w2.heap.size=b1+1:=by rw [F.size,f.size]
    clear F f;have ak:=kh ab;clear ab;refine eK ?_;refine AM (ι:=Nat) (fun x=>[(25,.int .i64 x),(24,.int .i64 l.length),(23,.slice a l.length c),(2,.pointer (some ⟨E,0,none⟩)),(1,.int .i64 d)]) (fun x w'=>Fr (· = E) w2 w'/\x<=l.length /\ ∃U,Blk w' E [.int .i64 U]/\0<=U/\U<=1000000/\Ct l (d-1) (m-1)=Ct (l.drop x) (d-1) U) (fun x=>l.length-x) 0 sB ⟨mb _ _,kC _,m-1,aj,Aa,Aa,rfl⟩ ?_;rintro j w3 ⟨f3,hj,U,ac,X,ad,ae⟩;have HR:=kh ae;clear ae;by_cases L:j<l.length
    . have al:rowSits S w3 l a:=ak.out.fr f3 (fun b Z e=>hS (e▸Z));obtain ⟨kb,ko,rfl,ay,Y⟩:=Bx al (by intro e;subst e;simp at L);obtain ⟨xa,xc,rx,sx⟩:=Y j l[j] (kg L);have am:=BZ ah l[j] (kq L);have az:=EF (kq L);have HD:=kh (SA l j L (d-1) U);clear Y;generalize l[j]=x at *;have an:=J7 x (d-1) U X;refine eK ?_;refine Hi C9 rfl rfl ?_;intro b4 w4 M;refine Js Ab rfl rfl rfl rfl rfl rfl (M) rfl ?_;clear M w4;intro w4 M;have h4:=M.blk;have x4:=M.ext;have ao:=ac.ext x4;refine Ah (Ai (Al (Ag ?_)));refine Ch (by exact BS Ab rfl rfl rfl (by exact fun wz hz=>by (try subst hz);exact (l8 Af)) (by rfl)) rfl ?_;refine C1 Mv (Ch (by exact CM rfl rfl (kN _ Aa)) rfl (C1 Mv (cC rfl (IH.out x S xa xc (d-1) U E _ Aa am Aa Aa X ad (sx.ext x4) hS ao) ?_)));rintro _ w5 ⟨⟨⟩,af,f5⟩;have ag:Fr (· = E) w2 w5:=f3.trans ((Fr.of_ext x4).trans f5);cases O:(x.lim (d-1) U).1
      . try rw [O]
        refine C1 Pt (Ah (Ai (FR rfl (by rfl) ?_)));refine eK ?_;refine Bo results128 rfl ?_;rw [HR.out,HD.out,O];exact ⟨rfl,af,f2.trans ag⟩
      . try rw [O]
        refine C1 Pt (Ah (Ai (F3 rfl (by rfl) (Av (Ad (Ai (Ag (C1 V7 (C1 Mv (Ah ?_))))))))));refine Ay (j+1) sB ⟨ag,Aa,(x.lim (d-1) U).2,af,an.1,Aa,?_⟩ Aa;rw [HR.out,HD.out,O];rfl
    . refine eK ?_;refine Bo results128 rfl ?_;have:l.drop j=[]:=List.drop_eq_nil_of_le Aa;rw [HR.out,this];exact ⟨rfl,ac,f2.trans f3⟩
def Ext.fr1 {a b c:wD} {f:Nat} (h:Ext a b) (k:Fr (· = f) b c) (F:a.heap.size<=f):Ext a c:=
 ⟨k.os.trans (Below.os h),k.tape.trans (Below.tape h),k.output.trans (Below.output h),kW h.size k.size,fun i E=>(k.block i (Nat.lt_of_lt_of_le E h.size) Aa).trans (h.block E)⟩
def YT {S:nP} {w:wD} (t:Nd) (a:oA) (h:t.sits S w a):t.sits (fun b=>S b/\b<w.heap.size) w a:=by
 have key : ∀N:Nat,(∀(l:List Nd) (a:oA),Aj l<N->rowSits S w l a->rowSits (fun b=>S b/\b<w.heap.size) w l a):=by
  intro N
  induction N with
  | zero=>intro l a h;omega
  | succ N f=>
   intro l a E h;cases l with
   | nil=>simp [rowSits]
   | cons x r=>
    simp only [rowSits] at h ⊢;obtain ⟨b,o,F,c,rfl,O,L,h1,U,V,M,X⟩:=h;have Y:=CQ L;simp only [Aj] at E;have Z:=Nd.size_pos x;obtain ⟨k,n,s,l⟩:=x;simp only [lR] at E;refine ⟨b,o,F,c,rfl,⟨O,Y⟩,L,h1,U,V,?_,f r _ Aa X⟩;simp only [Nd.sits] at M ⊢;exact f l F Aa M
 obtain ⟨k,n,s,l⟩:=t;simp only [Nd.sits] at h ⊢;exact key (Aj l+1) l a Aa h
def SB (t:Nd) (S:nP) (a:oA) (c:Nat) (w:wD) (F:t.wf) (U:t.sits S w a) :
 Calls prog 86 #[t.val a c] w fun e w'=>e = .returned (.bool (D9 t))/\Ext w w':=by
 have L:=YT t a U;refine Ae func86 ntmps86 rfl rfl ?_;refine eK ?_;refine MT rfl rfl rfl ?_;intro b1 w1 E;have h1:=E.blk;have x1:=E.ext;have p1:=E.pos;have z1:=E.size;refine eK ?_;refine Hi C9 rfl rfl ?_;intro X M f;refine Js Ab rfl rfl rfl rfl rfl rfl (f) rfl ?_;clear f M;intro M f;have Y:=f.ext;have Z:=h1.ext Y;have aa:=f.pos;refine Ah (Ai (Al (Ag ?_)));refine Ch (by exact BS Ab rfl rfl rfl (by exact fun wz N=>by (try subst N);exact (l8 Af)) (by rfl)) rfl ?_;refine cC rfl (WV (t.size+1) t _ a c 80 2000 X _ Aa F Aa Aa Aa Aa (L.ext (by refine lQ ?_ Af;assumption)) (fun h=>by omega) f.blk) ?_;rintro _ w3 ⟨⟨⟩,-,V⟩;have O:Ext w w3:=Ext.fr1 (b:=M) (by refine lQ ?_ Af;assumption) V Aa;have h3:=Z.fr V Aa;cases hq:(t.lim 80 2000).1
 . try rw [hq]
   refine eK ?_;refine Bo results86 rfl ?_;exact ⟨AN (by simp [D9,hq]),O⟩
 . try rw [hq]
   refine C1 Mv (Bl rfl rfl rfl (rfl) ?_);refine Ch (by exact BS Ab rfl rfl rfl (by exact fun wz N=>by (try subst N);exact (l8 Af)) (by rfl)) rfl ?_;refine Bl rfl rfl rfl (rfl) (cC rfl (Ws S t F a c _ (U.ext O)) ?_);rintro _ w4 ⟨⟨⟩,x4⟩;refine eK ?_;refine Bo results86 rfl ?_;exact ⟨AN (by simp [D9,hq]),O.trans x4⟩
structure PD.wf (p:PD):Prop where
 name:p.name.length<=9223372036854775807
 len:p.params.length<=9223372036854775807
 params : ∀v∈p.params,v.wf
 body:p.body.wf
structure PG.wf (g:PG):Prop where
 nv:g.vars.length<=9223372036854775807
 np:g.procs.length<=9223372036854775807
 vars : ∀v∈g.vars,v.wf
 procs : ∀p∈g.procs,p.wf
 main:g.main.wf
def SC {l:List PD} {j:Nat} (h:j<l.length) (f:l[j].ok=false):l.all PD.ok=false:=by
 rw [List.all_eq_false];exact ⟨l[j],kq h,by simp [f]⟩
def Uk {l:List PD} (h : ∀j (F:j<l.length),l[j].ok=true):l.all PD.ok=true:=by
 rw [lG];intro x f;obtain ⟨i,E,rfl⟩:=List.mem_iff_getElem.1 f;exact h i E
def Vt (g:PG) (S:nP) (va:oA) (vc:Nat) (Y:oA) (pc:Nat) (ma:oA) (mc:Nat) (w:wD) (f:g.wf) (hs:g.sits S w va Y ma) :
 Calls prog 48 #[.agg (g.cells va vc Y pc ma mc).toArray] w fun e w'=>e = .returned (.bool g.ok)/\Ext w w':=by
 have aa:=f.nv;have ag:=f.np;refine Ae func48 ntmps48 rfl rfl ?_;refine eK ?_;refine MT rfl rfl rfl ?_;intro b1 w1 V;have h1:=V.blk;have Z:=V.ext;by_cases c1:32<g.vars.length
 . refine C1 Pa (Ah (Ai (Al (Al (Ag (C1 Pg (C1 Lg (C1 Pz (C1 V5 (C1 Mv (BJ rfl rfl rfl Aa rfl ?_)))))))))));refine BJ rfl rfl rfl Aa rfl (BJ rfl rfl rfl Aa rfl (BJ rfl rfl rfl Aa rfl (C1 V0 (C1 Mv (Bb rfl rfl rfl (rfl) rfl (Bb rfl rfl rfl (rfl) rfl (Bb rfl rfl rfl (rfl) rfl (Bb rfl rfl rfl (rfl) rfl (C1 (Cm rfl rfl rfl) (Ah (Ai ?_)))))))))));refine FR rfl (by rfl) ?_;refine eK ?_;refine Bo results48 rfl ?_;exact ⟨AN (by simp [PG.ok];omega),Z⟩
 by_cases c2:64<g.procs.length
 . refine C1 Pa (Ah (Ai (Al (Al (Ag (C1 Pg (C1 Lg (C1 Pz (C1 V5 (C1 Mv (Bg rfl rfl rfl Aa ?_)))))))))));refine C1 Pf (Bg rfl rfl rfl Aa (C1 Lg (Bg rfl rfl rfl Aa (C1 Pz (Bg rfl rfl rfl Aa (C1 V5 (C1 O2 (C1 Mv (BJ rfl rfl rfl Aa rfl (BJ rfl rfl rfl Aa rfl (BJ rfl rfl rfl Aa rfl ?_)))))))))));refine BJ rfl rfl rfl Aa rfl (C1 V0 (Ah (Ai (FR rfl (by rfl) ?_))));refine eK ?_;refine Bo results48 rfl ?_;exact ⟨AN (by simp [PG.ok];omega),Z⟩
 refine C1 Pa (Ah (Ai (Al (Al (Ag (C1 Pg (C1 Lg (C1 Pz (C1 V5 (C1 Mv (Bg rfl rfl rfl Aa ?_)))))))))));refine C1 Pf (Bg rfl rfl rfl Aa (C1 Lg (Bg rfl rfl rfl Aa (C1 Pz (Bg rfl rfl rfl Aa (C1 V5 (C1 O2 (C1 Mv (Bg rfl rfl rfl Aa (C1 Pg (Bg rfl rfl rfl Aa ?_)))))))))));refine C1 Lg (Bg rfl rfl rfl Aa (cC rfl (NF g.vars S va vc _ aa f.vars (hs.vars.ext Z)) ?_));rintro _ w2 ⟨⟨⟩,x2⟩;cases hq:Dd g.vars
 . try rw [hq]
   refine Bg rfl rfl rfl Aa (C1 Pt (C1 O2 (Ah (Ai (FR rfl (by rfl) ?_)))));refine eK ?_;refine Bo results48 rfl ?_;exact ⟨AN (by simp [PG.ok,hq]),Z.trans x2⟩
 try rw [hq]
 have h2:=h1.ext x2;refine Bg rfl rfl rfl Aa (C1 Pt (C1 O2 (Ah (Ai (F3 rfl (by rfl) ?_)))));refine eK ?_;refine AM (ι:=Nat) (fun j=>[(24,.int .i64 j),(23,.int .i64 g.procs.length),(22,.slice Y g.procs.length pc),(1,.pointer (some ⟨b1,0,none⟩))]) (fun j w'=>Ext w2 w'/\j<=g.procs.length /\ ∀i (hi:i<g.procs.length),i<j->g.procs[i].ok=true) (fun j=>g.procs.length-j) 0 sB ⟨lN _,Aa,Aa⟩ ?_;rintro j w3 ⟨x3,hj,F⟩;have HA:=kh F;clear F;have E:Ext w w3:=(by refine lQ ?_ Af;refine lQ ?_ Af;assumption)
 by_cases O:j<g.procs.length
 . have ab:PDs S w3 g.procs Y:=hs.procs.ext E;obtain ⟨kb,ko,rfl,-,L⟩:=mq ab Aa;obtain ⟨qa,qc,ba,bc,rx,sv,sb⟩:=L j g.procs[j] (kg O);have wf:=f.procs g.procs[j] (kq O);have ac:=wf.name;have ad:=wf.len;have HN:=kh (SC O);clear L;generalize hv:g.procs[j]=p at *;have HE:=kh hv;clear hv;refine eK ?_;refine Hi C9 rfl rfl ?_;intro b4 w4 h;refine Js Ab rfl rfl rfl rfl rfl rfl (h) rfl ?_;clear h w4;intro w4 h;have h4:=h.blk;have x4:=h.ext;refine eK ?_;refine cC rfl (Ip p.name _ ac) ?_;rintro _ w5 ⟨⟨⟩,x5⟩;have U:Ext w w5:=E.trans (x4.trans x5);have M:Ext w3 w5:=x4.trans x5;have h5:=h4.ext x5;cases hnm:AS p.name
   . try rw [hnm]
     refine C1 Pt (C1 Mv (Bb rfl rfl rfl (rfl) rfl (Bb rfl rfl rfl (rfl) rfl (Bb rfl rfl rfl (rfl) rfl (Bb rfl rfl rfl (rfl) rfl (C1 (Cm rfl rfl rfl) (C1 Mv (Bb rfl rfl rfl (rfl) rfl (Bb rfl rfl rfl (rfl) rfl (Bb rfl rfl rfl (rfl) rfl (Bb rfl rfl rfl (rfl) rfl ?_)))))))))));refine C1 (Cm rfl rfl rfl) (C1 Mv (Bb rfl rfl rfl (rfl) rfl (Bb rfl rfl rfl (rfl) rfl (Bb rfl rfl rfl (rfl) rfl (Bb rfl rfl rfl (rfl) rfl (C1 (Cm rfl rfl rfl) (Ah (Ai (FR rfl (by rfl) ?_)))))))));refine eK ?_;refine Bo results48 rfl ?_;exact ⟨AN (by simp [PG.ok,HN.out (by simp [PD.ok,hnm])]),U⟩
   try rw [hnm]
   by_cases c3:8<p.params.length
   . refine C1 Pt (C1 Mv (Bl rfl rfl rfl (rfl) (C1 Pf (Bl rfl rfl rfl (rfl) (C1 Lg (Bl rfl rfl rfl (rfl) (C1 Pz (Bl rfl rfl rfl (rfl) (C1 V5 (C1 (Cd rfl rfl rfl) (C1 Mv ?_)))))))))));refine BJ rfl rfl rfl Aa rfl (BJ rfl rfl rfl Aa rfl (BJ rfl rfl rfl Aa rfl (BJ rfl rfl rfl Aa rfl (C1 V0 (C1 Mv (Bb rfl rfl rfl (rfl) rfl (Bb rfl rfl rfl (rfl) rfl (Bb rfl rfl rfl (rfl) rfl (Bb rfl rfl rfl (rfl) rfl (C1 (Cm rfl rfl rfl) (Ah ?_)))))))))));refine Ai (FR rfl (by rfl) ?_);refine eK ?_;refine Bo results48 rfl ?_;exact ⟨AN (by simp [PG.ok,HN.out (by simp [PD.ok,hnm];omega)]),U⟩
   refine C1 Pt (C1 Mv (Bl rfl rfl rfl (rfl) (C1 Pf (Bl rfl rfl rfl (rfl) (C1 Lg (Bl rfl rfl rfl (rfl) (C1 Pz (Bl rfl rfl rfl (rfl) (C1 V5 (C1 (Cd rfl rfl rfl) (C1 Mv ?_)))))))))));refine Bg rfl rfl rfl Aa (C1 Pf (Bg rfl rfl rfl Aa (C1 Lg (Bg rfl rfl rfl Aa (cC rfl (NF p.params S qa qc _ ad wf.params (sv.ext M)) ?_)))));rintro _ w6 ⟨⟨⟩,x6⟩;have X:Ext w w6:=U.trans x6;have N:Ext w3 w6:=M.trans x6;have h6:=h5.ext x6;cases hq2:Dd p.params
   . try rw [hq2]
     refine Bg rfl rfl rfl Aa (C1 Pt (C1 O2 (C1 Mv (Bb rfl rfl rfl (rfl) rfl (Bb rfl rfl rfl (rfl) rfl (Bb rfl rfl rfl (rfl) rfl (Bb rfl rfl rfl (rfl) rfl (C1 (Cm rfl rfl rfl) (Ah (Ai (FR rfl (by rfl) ?_)))))))))));refine eK ?_;refine Bo results48 rfl ?_;exact ⟨AN (by simp [PG.ok,HN.out (by simp [PD.ok,hq2])]),X⟩
   try rw [hq2]
   refine Bg rfl rfl rfl Aa (C1 Pt (C1 O2 (C1 Mv (Bl rfl rfl rfl (rfl) (C1 Pf (Bl rfl rfl rfl (rfl) ?_))))));refine Ch (by exact D2 Ab rfl rfl rfl (by exact fun wz hz=>by (try subst hz);assumption) (by rfl)) rfl ?_;refine Bl rfl rfl rfl (rfl) (cC rfl (SB p.body S ba bc _ wf.body (sb.ext N)) ?_);rintro _ w7 ⟨⟨⟩,x7⟩;have ae:Ext w w7:=X.trans x7;cases hq3:D9 p.body
   . try rw [hq3]
     refine Bl rfl rfl rfl (rfl) (C1 Pt (C1 (Cd rfl rfl rfl) (Ah (Ai (FR rfl (by rfl) ?_)))));refine eK ?_;refine Bo results48 rfl ?_;exact ⟨AN (by simp [PG.ok,HN.out (by simp [PD.ok,hq3])]),ae⟩
   try rw [hq3]
   have af:p.ok=true:=by simp [PD.ok,hnm,hq2,hq3];omega
   refine Bl rfl rfl rfl (rfl) (C1 Pt (C1 (Cd rfl rfl rfl) (Ah (Ai (F3 rfl (by rfl) (Av (Ad (Ai (Ag (C1 V7 (C1 Mv ?_)))))))))));refine Ah ?_;refine Ay (j+1) sB ⟨x3.trans (N.trans x7),Aa,fun i hi ah=>?_⟩ Aa;by_cases e:i=j
   . subst e;exact HE.out▸af
   . exact HA.out i hi Aa
 . have h3:=h2.ext x3;refine Al (Ag (C1 V3 (Ah (Ai (Al (E4 (DP (AQ (AQ (Bs (Ai ?_)))))))))));refine Al (Ag (C1 Pf ?_));refine Ch (by exact D2 Ab rfl rfl rfl (by exact fun wz hz=>by (try subst hz);assumption) (by rfl)) rfl ?_;refine cC rfl (SB g.main S ma mc _ f.main (hs.main.ext E)) ?_;rintro _ w4 ⟨⟨⟩,x4⟩;refine eK ?_;refine Bo results48 rfl ?_;refine ⟨AN ?_,E.trans x4⟩;have:=Uk (fun i hi=>HA.out i hi Aa);simp [PG.ok,hq,this];omega
def KU : ∀l:List Nd,0<=AT l
 | []=>by simp [AT]
 | t::r=>by have:=KU r;simp only [AT];omega
mutual
def Vu : ∀(t:Nd) (d m:Int),t.depth<=d->(t.size:Int)<=m->t.lim d m=(true,m-t.size)
 | .mk _ _ _ l,d,m,hd,hm=>by
  simp only [Nd.depth] at hd;simp only [lR] at hm;have h0:0<=AT l:=KU l;unfold Nd.lim;rw [At Aa,NG l (d-1) (m-1) Aa Aa];simp only [lR];congr 1;omega
def NG : ∀(l:List Nd) (d m:Int),AT l<=d->(Aj l:Int)<=m->Ct l d m=(true,m-Aj l)
 | [],d,m,_,_=>by simp [Ct,Aj]
 | t::r,d,m,hd,hm=>by
  simp only [AT] at hd;simp only [Aj] at hm;have h1:=Vu t d m Aa Aa;unfold Ct;rw [h1];simp only [if_true];rw [NG r d _ Aa Aa];simp only [Aj];congr 1;omega
end
mutual
def NH : ∀(t:Nd) (d m:Int),0<=d->(t.lim d m).1=true->t.depth<=d
 | .mk _ _ s l,d,m,hd,h=>by
  simp only [Nd.lim] at h;split at h
  . simp at h
  . have:=JQ l (d-1) (m-1) Aa h;simp only [Nd.depth];omega
def JQ : ∀(l:List Nd) (d m:Int),0<=d->(Ct l d m).1=true->AT l<=d
 | [],d,m,hd,_=>by simp only [AT];exact hd
 | t::r,d,m,hd,h=>by
  simp only [Ct] at h;split at h
  . rename_i ht;have h1:=NH t d m hd ht;have h2:=JQ r d _ hd h;simp only [AT];omega
  . simp at h
end
mutual
def PH : ∀(t:Nd) (d m:Int),0<=m->(t.lim d m).1=true->(t.size:Int)+(t.lim d m).2<=m
 | .mk _ _ s l,d,m,hm,h=>by
  simp only [Nd.lim] at h ⊢;split at h
  . simp at h
  . rename_i hn;rw [At hn];have:=KV l (d-1) (m-1) Aa h;simp only [lR];omega
def KV : ∀(l:List Nd) (d m:Int),0<=m->(Ct l d m).1=true->(Aj l:Int)+(Ct l d m).2<=m
 | [],d,m,hm,_=>by simp only [Ct,Aj];omega
 | t::r,d,m,hm,h=>by
  simp only [Ct] at h ⊢;split at h
  . rename_i ht;rw [AH ht];have h1:=PH t d m hm ht;have h0:=J7 t d m hm;have h2:=KV r d (t.lim d m).2 h0.1 h;simp only [Aj];omega
  . simp at h
end
def body_iff {t:Nd}:D9 t=true↔t.isBlock=true/\t.depth<=80/\t.size<=2000:=by
 constructor
 . intro h;simp only [D9,ke] at h;have h1:=PH t 80 2000 Aa h.1;have f:=J7 t 80 2000 Aa;exact ⟨h.2,NH t 80 2000 Aa h.1,Aa⟩
 . rintro ⟨h1,f,E⟩;simp only [D9,ke];refine ⟨?_,h1⟩;rw [Vu t 80 2000 f Aa]
def Jf {g:PG} (h:g.ok=true):g.vars.length<=32/\g.procs.length<=64/\Dd g.vars=true/\(∀p∈g.procs,p.ok=true)/\D9 g.main=true:=by
 simp only [PG.ok,ke,decide_eq_true_eq] at h;obtain ⟨⟨⟨⟨h1,f⟩,E⟩,F⟩,L⟩:=h;exact ⟨h1,f,E,lG.1 F,L⟩
def Gi {p:PD} (h:p.ok=true):AS p.name=true/\p.params.length<=8/\Dd p.params=true/\D9 p.body=true:=by
 simp only [PD.ok,ke,decide_eq_true_eq] at h;obtain ⟨⟨⟨h1,f⟩,E⟩,F⟩:=h;exact ⟨h1,f,E,F⟩
def PD.map (f:Nd->Nd) (p:PD):PD:=⟨p.name,p.params,f p.body⟩
def PG.inv (f:Nd->Nd) (q:Bool) (g:PG):PG:=⟨g.vars,g.procs.map (PD.map f),g.main.inv q⟩
def WW {f:Nd->Nd} (q:Bool) {g:PG} (h:g.wf) (E:g.ok=true) (L : ∀p∈g.procs,(f p.body).wf):(g.inv f q).wf:=by
 obtain ⟨h1,O,U,V,M⟩:=Jf E;refine ⟨h.nv,by simpa [PG.inv] using h.np,h.vars,fun p N=>?_,(fI q (g.main.size+1) g.main Aa (kp (body_iff.1 M).1)).wf h.main⟩;obtain ⟨x,F,rfl⟩:=List.mem_map.1 N;have:=h.procs x F;exact ⟨this.name,this.len,this.params,L x F⟩
def YU {g:PG} (h:g.ok=true):g.main.isBlock=true:=(body_iff.1 (Jf h).2.2.2.2).1
attribute [local irreducible] Go.Calls
def KW {g:PG} {b:Bool} (f:g.wf) (h:g.ok=b) (S:nP) (E:oA) (M:Nat) (F:oA) (N:Nat) (L:oA) (O:Nat) (w:wD) (U:g.sits S w E F L) :
 Calls prog 48 #[.agg (g.cells E M F N L O).toArray] w fun e w'=>e = .returned (.bool b)/\Ext w w':=by
 have:=Vt g S E M F N L O w f U;rw [h] at this;exact this
def YV:PG:=⟨[],[],BR⟩
def PG.sits.ltA {S:nP} {w:wD} {g:PG} {f E F:oA} (h:g.sits S w f E F):g.sits (· < w.heap.size) w f E F:=⟨h.vars.lt2.wide fun _ h=>h.2,h.procs.ltA,I0 _ _ h.main⟩
def Ul (f:Nd->Nd) (l:List PD) (j:Nat) (h:j<l.length):(l.take (j+1)).map (PD.map f)=(l.take j).map (PD.map f)++[(l[j]).map f]:=by
 rw [ky h,List.map_append];rfl
def Mf (u:PG) (k:Int) (w:wD):Ending->wD->Prop:=fun e w'=> ∃va vc pa pc ma mc,e = .returned (.tuple #[.agg (u.cells va vc pa pc ma mc).toArray,.int .i64 k])/\u.sits (fun b=>w.heap.size<=b/\b<w'.heap.size) w' va pa ma/\PDsC (fun b=>w.heap.size<=b/\b<w'.heap.size) w' u.procs pa/\u.vars.length<=vc/\Ext w w'
def PDsC.lt2 {S:nP} {w:wD} {l:List PD} {a:oA} (h:PDsC S w l a):PDsC (fun b=>S b/\b<w.heap.size) w l a:=by
 rcases h with h|⟨b,o,h1,F,E⟩
 . exact kj h
 . cases l with
   | nil=>exact kj rfl
   | cons v r=>
    obtain ⟨_,_,_,_,f,-,-⟩:=E 0 v rfl;refine kp ⟨b,o,h1,⟨F,CQ (Row.at0 f rfl)⟩,fun i x L=>?_⟩;obtain ⟨M,N,O,U,f,V,X,Y⟩:=E i x L;exact ⟨M,N,O,U,f,V.lt2,Ho _ _ X,Y⟩
def YW {f:Nd->Nd} {q:Bool} {g:PG} {w w':wD} {E F L:oA} {N O U M e:Nat} {xs:List PD} {V S2:nP} (Y:xs=g.procs.map (PD.map f)) (Z:VDs V w' g.vars E) (hc:g.vars.length<=N) (ho:OwnL FV w' M e (.slice F xs.length O) xs) (hm:(g.main.inv q).sits S2 w' L) (X:Ext w w') (k1 : ∀b,V b->w.heap.size<=b) (k2 : ∀b,S2 b->w.heap.size<=b) (kM:w.heap.size<=M) :
 Mf (g.inv f q) 0 w (.returned (.tuple #[.agg #[.slice E g.vars.length N,.slice F xs.length O,.int .u8 (g.main.inv q).kind,.int .i64 (g.main.inv q).num,str (g.main.inv q).name,.slice L (g.main.inv q).kids.length U],.int .i64 0])) w':=by
 subst Y;have h1:=PDsC.wide (PDsC.lt2 (ho.pdsC (S:=fun b=>M<=b) (fun b hb=>hb))) (S':=fun b=>w.heap.size<=b/\b<w'.heap.size) fun b h=>⟨Aa,h.2⟩
 exact ⟨E,N,F,O,L,U,rfl,⟨Z.lt2.wide fun b h=>⟨k1 b h.1,h.2⟩,h1.pds,lY (Ho _ _ hm) fun b h=>⟨k2 b h.1,h.2⟩⟩,h1,hc,X⟩
def Um (q:Bool) (al:Nat) (f:Nd->Nd) (b4:F1 prog al=true) (g:PG) (a5:g.wf) (a6:g.ok=true) (hf:g.few) (hm:g.main.isBlock=true)
 (HB : ∀p∈g.procs,∀(S:nP) (a:oA) (c:Nat) (w:wD),p.body.sits S w a->Calls prog al #[p.body.val a c] w (CopyR (f p.body) w))
 (S:nP) (va:oA) (vc:Nat) (pa:oA) (pc:Nat) (ma:oA) (mc:Nat) (w:wD) (hs:g.sits S w va pa ma) :
 Calls prog 51 #[.agg (g.cells va vc pa pc ma mc).toArray,.func (.func al) #[] #[],.bool q] w (Mf (g.inv f q) 0 w):=by
 have X:=lN w;obtain ⟨nv,np,b5,a7⟩:=hf;have HV:=kh (KW a5 a6);have HI:=kh (YL q g.main b5 (kp hm));have HC:=kh (Pk g.vars Aa);have HP:=kh HB;have HQ:=kh a7;clear a5 a6 hm HB a7;have hs:=hs.ltA;refine Ae func51 ntmps51 rfl rfl ?_;refine cS (eB [_,_,_,_,_,_] ?_);intro b1 w2 h4 x5 p6 z7;revert X hs;refine eE x5 ?_;intro X hs;refine eA [_,_,_,_,_,_] ?_;intro b8 w9 F b6 eg eh;revert h4 X hs;refine eE b6 ?_;intro h4 X hs;refine eK ?_;refine cC rfl (HV.out _ _ _ _ _ _ _ _ Af) ?_;rintro _ a8 ⟨⟨⟩,b7⟩;revert F h4 X hs;refine eY b7 ?_;intro ei F h4 X hs;refine C1 Pt (cT (CT rfl (Av (Ai ?_))));refine KG (ι:=Nat×oA×Nat×oA×Nat) (fun x=>[(1,.func (.func al) #[] #[]),(3,.pointer (some ⟨b1,0,none⟩)),(6,.pointer (some ⟨b8,0,none⟩)),(8,.pointer (some ⟨x.1,0,none⟩))])
  (fun x w'=>Blk w' x.1 [.slice x.2.1 g.vars.length x.2.2.1,.slice none 0 0,.int .u8 (g.main.inv q).kind,.int .i64 (g.main.inv q).num,str (g.main.inv q).name,.slice x.2.2.2.1 (g.main.inv q).kids.length x.2.2.2.2]/\VDs (fun b=>b8<b/\b≠x.1/\b<w'.heap.size) w' g.vars x.2.1/\(g.main.inv q).sits (fun b=>b8<b/\b≠x.1/\b<w'.heap.size) w' x.2.2.2.1/\b8<x.1/\x.1<w'.heap.size/\g.vars.length<=x.2.2.1 /\
   Blk w' b1 [.slice va g.vars.length vc,.slice pa g.procs.length pc,.int .u8 g.main.kind,.int .i64 g.main.num,str g.main.name,.slice ma g.main.kids.length mc]/\Blk w' b8 [.slice none 0 0,.slice none 0 0,.int .u8 0,.int .i64 0,str [],.slice none 0 0]/\g.sits (· < w.heap.size) w' va pa ma/\Ext w w') ?_ ?_
 . clear HP HQ HV;have hv:=hs.vars;have M:=hs.main
   focus
    refine AE (fun wz=>Ext a8 wz) 9 (.pure 0 (.pure 1 (.pure 3 (.pure 4 (.pure 5 (.fork 2 (.fork 6 (.pure 7 (.fork 8 .tail .none)) (.fork 8 (.fork 6 (.pure 7 .tail) .none) .none)) (.fork 8 (.fork 2 (.fork 6 (.pure 7 .tail) .none) .none) .none))))))) mixed BD (Ac An) ?_;intro b9 a9 _;have E:(fun wz=>Ext a8 wz) b9:=a9;simp only at E;have cb:=F;have ba:=h4;have cl:=hs;have cm:=hv;have cc:=M;revert F h4 X hs hv M;refine eY a9 ?_;intro ej F h4 X hs hv M;refine ⟨E,?_⟩;refine eT ?_;refine Tq rfl (xL [_,_,_,_] (fun wz hz=>(l7 ba hz))) (Tq rfl Mv ?_);refine A1 rfl (By BD rfl (HC.out _ _ _ _ Af) (fun _ _ h=>h.ret)) rfl ?_ aFh ?kra5;rintro _ cn ⟨ek,⟨el,⟨⟨⟩,⟨aa,⟨cd,co⟩⟩⟩⟩⟩;revert E F h4 X hs hv M;refine eY cd ?_;intro cp E F h4 X hs hv M;refine ⟨E,?_⟩;refine A1 rfl (By BD rfl (HI.out _ _ _ _ Af) (fun _ _ h=>h.ret)) rfl ?_ aFh ?kra13;rintro _ cq ⟨cr,⟨ct,⟨⟨⟩,⟨ae,bb⟩⟩⟩⟩;revert aa E F h4 X hs hv M;refine eY bb ?_;intro cu aa E F h4 X hs hv M;refine ⟨E,?_⟩;refine Tq rfl (xB [_,_,_,_,_,_]) ?_;refine A1 rfl (Dx C9 rfl) rfl ?_ aFh A9;rintro _ cv ⟨cw,rfl,af⟩;have ar:=af.blk;dsimp only at ar;have bc:=af.ext;have cx:=af.pos;have cy:=af.size;revert ae aa E F h4 X hs hv M;refine eE bc ?_;intro ae aa E F h4 X hs hv M;refine ⟨E,?_⟩;refine AI rfl (eS [_,_,_,_,_,_] ar ?_);intro cz c0 bd c1;revert ae aa F h4 X hs hv M;refine eF bd ?_;intro ae aa F h4 X hs hv M;refine Ah ?_;rotate_left;refine A1 rfl (Dx C9 rfl) rfl ?_ aFh A9;rintro _ c2 ⟨c3,rfl,ag⟩;have ah:=ag.blk;dsimp only at ah;have be:=ag.ext;have c4:=ag.pos;have c5:=ag.size;revert aa E F h4 X hs hv M;refine eE be ?_;intro aa E F h4 X hs hv M;refine ⟨E,?_⟩;refine tC rfl rfl (HI.out _ _ _ _ Af) ?_;rintro _ c6 ⟨c7,⟨c8,⟨⟨⟩,⟨au,bf⟩⟩⟩⟩;revert ah aa E F h4 X hs hv M;refine eY bf ?_;intro c9 ah aa E F h4 X hs hv M;refine ⟨E,?_⟩;refine Tq rfl (xB [_,_,_,_,_,_]) ?_;refine AI rfl (eS [_,_,_,_,_,_] ah ?_);intro da db bg dc;revert au aa F h4 X hs hv M;refine eF bg ?_
    intro au aa F h4 X hs hv M;refine Ah ?_;rotate_left;refine A1 rfl (Dx C9 rfl) rfl ?_ aFh A9;rintro _ dd ⟨de,rfl,ai⟩;have ac:=ai.blk;dsimp only at ac;have bh:=ai.ext;have df:=ai.pos;have dg:=ai.size;revert E F h4 X hs hv M;refine eE bh ?_;intro E F h4 X hs hv M;refine ⟨E,?_⟩;refine tC rfl rfl (HC.out _ _ _ _ Af) ?_;rintro _ dh ⟨di,⟨dk,⟨⟨⟩,⟨aj,⟨bi,dl⟩⟩⟩⟩⟩;revert ac E F h4 X hs hv M;refine eY bi ?_;intro dm ac E F h4 X hs hv M;refine ⟨E,?_⟩;refine tC rfl rfl (HI.out _ _ _ _ Af) ?_;rintro _ dn ⟨dp,⟨dq,⟨⟨⟩,⟨av,bj⟩⟩⟩⟩;revert aj ac E F h4 X hs hv M;refine eY bj ?_;intro dr aj ac E F h4 X hs hv M;refine ⟨E,?_⟩;refine Tq rfl (xB [_,_,_,_,_,_]) ?_;refine AI rfl (eS [_,_,_,_,_,_] ac ?_);intro ds dt bk du;revert av aj F h4 X hs hv M;refine eF bk ?_;intro av aj F h4 X hs hv M;refine Ah ?_;rotate_left
   . exact Cq (_,_,_,_,_) sB ⟨Af,VDs.wide Af (fun b h=>⟨Aa,Aa,Aa⟩),lY Af (fun b h=>⟨Aa,Aa,Aa⟩),Aa,Aa,Af,Af,Af,Af,Af⟩
   . exact Cq (_,_,_,_,_) sB ⟨Af,VDs.wide Af (fun b h=>⟨Aa,Aa,Aa⟩),lY Af (fun b h=>⟨Aa,Aa,Aa⟩),Aa,Aa,Af,Af,Af,Af,Af⟩
   . exact Cq (_,_,_,_,_) sB ⟨Af,VDs.wide Af (fun b h=>⟨Aa,Aa,Aa⟩),lY Af (fun b h=>⟨Aa,Aa,Aa⟩),Aa,Aa,Af,Af,Af,Af,Af⟩
 . clear h4 F hs X;rintro ⟨bq,bm,ce,bn,cf⟩ w1 ⟨V,O,U,o1,o2,bo,Y,Z,hs,X⟩;simp only at V O U o1 o2 bo;have hp:=hs.procs;have hz:=kv w1.heap.size;clear hs HV HI HC;refine Al (cS (C1 Pf (C1 (Pl Y) (C1 Pz (C1 Mv (cT (Ax ?_)))))));refine AM (ι:=Nat×List PD×oA×Nat) (fun x=>[(1,.func (.func al) #[] #[]),(3,.pointer (some ⟨b1,0,none⟩)),(6,.pointer (some ⟨b8,0,none⟩)),(8,.pointer (some ⟨bq,0,none⟩)),(24,.slice pa g.procs.length pc),(25,.int .i64 g.procs.length),(26,.int .i64 x.1)])
    (fun x w'=>OwnL FV w' w1.heap.size 90 (.slice x.2.2.1 x.2.1.length x.2.2.2) x.2.1/\x.2.1=(g.procs.take x.1).map (PD.map f)/\x.1<=g.procs.length/\Blk w' bq [.slice bm g.vars.length ce,.slice x.2.2.1 x.2.1.length x.2.2.2,.int .u8 (g.main.inv q).kind,.int .i64 (g.main.inv q).num,str (g.main.inv q).name,.slice bn (g.main.inv q).kids.length cf]/\VDs (fun b=>b8<b/\b≠bq/\b<w1.heap.size) w' g.vars bm/\(g.main.inv q).sits (fun b=>b8<b/\b≠bq/\b<w1.heap.size) w' bn /\
     Blk w' b1 [.slice va g.vars.length vc,.slice pa g.procs.length pc,.int .u8 g.main.kind,.int .i64 g.main.num,str g.main.name,.slice ma g.main.kids.length mc]/\Blk w' b8 [.slice none 0 0,.slice none 0 0,.int .u8 0,.int .i64 0,str [],.slice none 0 0]/\PDs (· < w.heap.size) w' g.procs pa/\Ext w w'/\w1.heap.size<=w'.heap.size)
    (fun x=>g.procs.length-x.1) (0,[],none,0) sB ⟨OwnL.nil,A6,kC _,V,O,U,Y,Z,hp,X,hz⟩ ?_
   clear V O U Y Z hp X hz;rintro ⟨j,xs,ra,rc⟩ w3 ⟨L,am,hj,V,O,U,Y,Z,hp,X,hz⟩;simp only at L am hj V;have bp : ∀g',(lm ra xs.length rc).ownBlock=some g'->w1.heap.size<=g'/\g'<w3.heap.size:=fun g' h=>⟨L.ge h,L.lt h⟩
   have em:xs.length<=1000000:=by rw [am,List.length_map,kU];omega
   refine CW.sub (m:=[(1,.func (.func al) #[] #[]),(3,.pointer (some ⟨b1,0,none⟩)),(6,.pointer (some ⟨b8,0,none⟩)),(8,.pointer (some ⟨bq,0,none⟩)),(24,.slice pa g.procs.length pc),(25,.int .i64 g.procs.length),(26,.int .i64 (j:Int))]) ?_ sB;by_cases ap:j<g.procs.length
   . obtain ⟨kb,ko,rfl,kS,hk⟩:=mq hp Aa;obtain ⟨xa,xc,ya,yc,rx,vx,sx⟩:=hk j _ (kg ap);have HX:=kh (HP.out _ (kq ap));have en:=HQ.out _ (kq ap);have HC:=kh (Pk g.procs[j].params Aa);have az:xs++[(g.procs[j]).map f]=(g.procs.take (j+1)).map (PD.map f):=by rw [am,Ul f _ j ap]
     clear hk HP HQ am;generalize g.procs[j]=x at *;refine eK ?_;refine xA [_,_,_,_,_,_] ?_;intro eo ep cg;refine eI [_,_,_,_,_,_] cg ?_;intro br ab ch eq er;revert L V O U Z X Y hp rx vx sx;refine eE ch ?_;intro L V O U Z X Y hp rx vx sx;refine cT (AE (fun wz=>Ext br wz) 13 (.pure 0 (.pure 1 (.pure 2 (.pure 3 (.pure 4 (.pure 5 (.pure 7 (.pure 8 (.pure 9 (.fork 6 (.fork 10 (.pure 11 (.fork 12 .tail .none)) .none) .none)))))))))) mixed BD (Ak (Ac (Ac (Ak (Ac An))))) ?_);intro ci aw _;have N:(fun wz=>Ext br wz) ci:=aw;simp only at N;have an:=ab;have aq:=L;have a0:=V;have a1:=O;have a2:=U;have a3:=Z;have a4:=Y;have bs:=hp;have bt:=rx;have bu:=vx;have bv:=sx;revert ab L V O U Z X Y hp rx vx sx;refine eY aw ?_;intro dv ab L V O U Z X Y hp rx vx sx;refine ⟨N,?_⟩;refine eT ?_;refine Tq rfl (xL [_,_,_,_] (fun wz hz=>(l7 an hz))) ?_;refine tC rfl rfl (HC.out _ _ _ _ Af) ?_;rintro _ dw ⟨dx,⟨dy,⟨⟨⟩,⟨ad,⟨bw,dz⟩⟩⟩⟩⟩;revert N ab L V O U Z X Y hp rx vx sx;refine eY bw ?_;intro d0 N ab L V O U Z X Y hp rx vx sx;refine ⟨N,?_⟩;refine A1 rfl (BU (fi:=[]) (ca:=[]) b4 rfl rfl (HX.out _ _ _ _ Af) (fun _ _ h=>h.ret)) rfl ?_ aFh A9;rintro _ d1 ⟨d2,⟨d3,⟨⟨⟩,⟨ao,bx⟩⟩⟩⟩;revert ad N ab L V O U Z X Y hp rx vx sx;refine eY bx ?_;intro d4 ad N ab L V O U Z X Y hp rx vx sx;refine ⟨N,?_⟩;refine Tq rfl (xB [_,_,_,_,_,_]) ?_;refine A1 rfl (xS [_,_,_,_,_,_]) rfl ?_ aFh A9;rintro _ d5 ⟨d6,rfl,ak,d7⟩;have bz:=ak.blk;have b0:=ak.ext;have d8:=ak.pos;have d9:=ak.size;revert ao ad N ab L V O U Z X Y hp rx vx sx;refine eE b0 ?_;intro ao ad N ab L V O U Z X Y hp rx vx sx;refine ⟨N,?_⟩;clear an aq a0 a1 a2 a3 a4 bs bt bu bv N;refine AI rfl ?_;refine Au (KB (sh:=FV) (z:=x.map f) Ab C9 rfl rfl rfl rfl BD rfl rfl rfl Af (l8 Af) ⟨_,_,_,_,rfl,VDs.wide Af (fun b h=>⟨Aa,fun e=>by have:=bp _ e;omega⟩),lY Af (fun b h=>⟨Aa,fun e=>by have:=bp _ e;omega⟩),Af⟩ Aa Aa) rfl ?_ aFh;rintro _ ea ⟨eb,⟨b3,⟨rfl,⟨ax,ay⟩⟩⟩⟩
     have ec:=ay.size;clear bz ao ad ab L;revert V O U Z X Y hp rx vx sx;refine eF ay ?_;intro V O U Z X Y hp rx vx sx;refine C1 Pf (eV [_] [_,_,_,_,_,_] V ?_);intro ed ee b2 ef;clear V;revert ax O U Z X Y hp rx vx sx;refine eF b2 ?_;intro ax O U Z X Y hp rx vx sx;refine Ah (Ad (Ai (Ag (C1 V7 (C1 Mv (Ah ?_))))));exact Ay (j+1,xs++[x.map f],some ⟨_,0,none⟩,_) sB ⟨Af,az,by simp only;omega,Af,O,U,Y,Z,hp,X,Aa⟩ (by simp only;omega)
   . have cj:j=g.procs.length:=by omega
     subst cj;rw [kE] at am;refine eK ?_;refine eS [_,_,_,_,_,_] Z ?_;intro es et ck eu;revert L V O U Y hp X;refine eF ck ?_;intro L V O U Y hp X;refine C1 Pa (cT (BO ?_));refine GG rfl Ab rfl rfl rfl Af rfl rfl ?_;exact YW am O bo L U X (fun b h=>by omega) (fun b h=>by omega) Aa
def MN {g:PG} (h:g.ok=true):g.few:=by
 obtain ⟨h1,L,-,f,E⟩:=Jf h;obtain ⟨-,-,M⟩:=body_iff.1 E;refine ⟨Aa,Aa,Aa,fun p F=>?_⟩;obtain ⟨-,N,-,c4⟩:=Gi (f p F);obtain ⟨-,-,c3⟩:=body_iff.1 c4;exact ⟨Aa,Aa⟩
def PG.inv_id (q:Bool) (g:PG):g.inv id q=⟨g.vars,g.procs,g.main.inv q⟩:=by
 unfold PG.inv;congr 1
 conv=>rhs;rw [<-List.map_id g.procs]
 refine List.map_congr_left fun p _=>?_
 obtain ⟨a,b,c⟩:=p;rfl
def fY {g:PG} (h:g.wf) (f:g.ok=true) (S:nP) (E:oA) (N:Nat) (F:oA) (O:Nat) (L:oA) (U:Nat) (w:wD) (M:g.sits S w E F L) :
 Calls prog 51 #[.agg (g.cells E N F O L U).toArray,.func (.func 52) #[] #[],.bool false] w (Mf (g.inv id false) 0 w):=
 Um false 52 id BD g h f (MN f) (YU f) (fun p V S a c w M=>QI p.body ((MN f).procs p V).2 S a c w M) S E N F O L U w M
def PI {u:PG} {k:Int} {w w':wD} {E f F:oA} {L U V M N:Nat} (O:u.sits (fun b=>M<=b/\b<N) w' E f F) (Y:PDsC (fun b=>M<=b/\b<N) w' u.procs f) (Z:u.vars.length<=L) (X:Ext w w') (hl:w.heap.size<=M) (hh:N<=w'.heap.size):Mf u k w (.returned (.tuple #[.agg #[.slice E u.vars.length L,.slice f u.procs.length U,.int .u8 u.main.kind,.int .i64 u.main.num,str u.main.name,.slice F u.main.kids.length V],.int .i64 k])) w':=
 ⟨E,L,f,U,F,V,rfl,⟨O.vars.wide fun b h=>by omega,PDs.wide O.procs fun b h=>by omega,lY O.main fun b h=>by omega⟩,PDsC.wide Y fun b h=>by omega,Z,X⟩
def SD {k:Int} (u g:PG) (V : ∀(S:nP) (L:oA) (Y:Nat) (M:oA) (Z:Nat) (N:oA) (mc:Nat) (w:wD),g.sits S w L M N ->
      Calls prog 51 #[.agg (g.cells L Y M Z N mc).toArray,.func (.func 52) #[] #[],.bool false] w (Mf u k w))
 (S:nP) (L:oA) (Y:Nat) (M:oA) (Z:Nat) (N:oA) (mc:Nat) (w:wD) (f:g.sits S w L M N) :
 Calls prog 26 #[.agg (g.cells L Y M Z N mc).toArray] w (Mf u k w):=by
 have X:=lN w;have f:=f.ltA;have V:=kh V;refine Ae func26 ntmps26 rfl rfl ?_;refine cS (eB [_,_,_,_,_,_] ?_);intro b1 w2 F x5 p6 z7;revert X f;refine eE x5 ?_;intro X f;refine eA [_,_,_,_,_,_] ?_;intro b8 w9 E aa aj ak;revert F X f;refine eE aa ?_;intro F X f;refine eK ?_;refine Au (By BD rfl (V.out _ _ _ _ _ _ _ _ Af) (fun _ _ ⟨_,_,_,_,_,_,h⟩=>⟨_,h.1⟩)) rfl ?_ aFh;rintro _ al ⟨ad,⟨ae,⟨af,⟨ag,⟨ah,⟨ai,⟨⟨⟩,⟨O,⟨U,⟨am,ab⟩⟩⟩⟩⟩⟩⟩⟩⟩⟩;revert E F X f;refine eY ab ?_;intro an E F X f;refine eK ?_;refine eS [_,_,_,_,_,_] E ?_;intro ao ap ac z31;revert O U F X f;refine eF ac ?_;intro O U F X f;refine C1 Pa (cT (BO ?_));refine GG rfl Ab rfl rfl rfl Af rfl rfl ?_;exact PI Af Af Af X Aa Aa
def Mg {g:PG} (f:g.wf) (h:g.ok=true) (S:nP) (E:oA) (M:Nat) (F:oA) (N:Nat) (L:oA) (O:Nat) (w:wD) (U:g.sits S w E F L) :
 Calls prog 26 #[.agg (g.cells E M F N L O).toArray] w (Mf (g.inv id false) 0 w):=SD _ g (fY f h) S E M F N L O w U
def LenR (n:Nat) (w:wD):Ending->wD->Prop:=fun e w'=> ∃a c,e = .returned (.slice a n c)/\Ext w w'
def LenR.ret {n:Nat} {w:wD} {e:Ending} {w':wD} (h:LenR n w e w') : ∃v,e = .returned v:=by
 obtain ⟨_,_,h,-⟩:=h;exact ⟨_,h⟩
def VDs.take {S:nP} {w:wD} {l:List VD} {a:oA} (h:VDs S w l a) (i:Nat):VDs S w (l.take i) a:=by
 rcases h with h|⟨b,o,h1,E,F⟩
 . exact kj (by rw [h];simp)
 . refine kp ⟨b,o,h1,E,fun j v f=>F j v ?_⟩;rw [List.getElem?_take] at f;split at f
   . exact f
   . cases f
def LA (f:List PD) (K:Nat) : ∀(l:List PD) (i:Nat),(∀(i:Nat) (p:PD),p∈l->NE f i p<=K)->Fe f i l<=l.length*K
 | [],_,_=>by simp [Fe]
 | p::r,i,h=>by
  have h1:=h i p A6;have F:=LA f K r (i+1) (fun i q E=>h i q (by simp [E]));unfold NE at h1;simp only [Fe,kf,Nat.add_mul];omega
def NI {fb:Nat} {w f w':wD} {v E:Value} (x:Fr (fun k=>k=fb\/v.ownBlock=some k) w w') (h : ∀g,E.ownBlock=some g->v.ownBlock=some g\/f.heap.size<=g) (L:w.heap.size<=f.heap.size):Eff fb w v w' E:=⟨x,fun g F=>(h g F).imp id fun h=>by omega⟩
def SE {w:wD} {b:Nat} {v:Value} (h:Blk w b [v]) (h1:mm v=true):PathAt (fun _=>True) w (some ⟨b,0,none⟩) 1 1:=⟨⟨kv _,fun e=>by cases e⟩,[v],rfl,by simp [h1],kp ⟨b,0,rfl,trivial,h.row⟩⟩
set_option maxHeartbeats 8000000 in
def SF (g:PG) (cw:g.wf) (bw:g.ok=true) (S:nP) (va:oA) (vc:Nat) (pa:oA) (pc:Nat) (ma:oA) (mc:Nat) (w:wD) (hs:g.sits S w va pa ma) (f:PDsC S w g.procs pa) (cx:g.vars.length<=vc) :
 Calls prog 49 #[.agg (g.cells va vc pa pc ma mc).toArray] w (LenR g.flt w):=by
 have dq:=MN bw;have HV:=kh (KW cw bw);have E:=hs.vars.ltV;have L:=I0 _ _ hs.main;have f:=f.ltA;have hs:=hs.ltA;have X:=lN w;refine Ae func49 ntmps49 rfl rfl ?_;refine cS (eB [_,_,_,_,_,_] ?_);intro b1 w2 Y x5 p6 z7;revert E L f hs X;refine eE x5 ?_;intro E L f hs X;refine eK ?_;refine cC rfl (HV.out _ _ _ _ _ _ _ _ Af) ?_;rintro _ w9 ⟨⟨⟩,x8⟩;revert Y E L f hs X;refine eY x8 ?_;intro e5 Y E L f hs X;refine eK ?_;refine eA [_] ?_;intro V e6 bk cy e7 e8;revert Y E L f hs X;refine eE cy ?_;intro Y E L f hs X;refine cN (C1 (FA rfl) (xA [_] ?_));intro ag e9 cz;refine eI [_] cz ?_;intro bx N c0 fa fc;revert bk Y E L f hs X;refine eE c0 ?_;intro bk Y E L f hs X;refine cT (Al (cS (C1 Pg (C1 (Pl Y) (C1 Pz (C1 Mv (cT ?_)))))));obtain ⟨o1,o2,-,o4,o5⟩:=Jf bw;have b7:FS w.heap.size V 0 bx (.slice none 0 0):=⟨bk,OwnQ.nil,by simp [lp],Aa⟩;have k1:Kp V bx (.slice none 0 0) b1:=⟨Aa,Aa,by simp [lp]⟩;have kR:Kp V bx (.slice none 0 0) ag:=⟨Aa,Aa,by simp [lp]⟩;refine Ax ?_;refine AM (ι:=Nat×Value) (fun x=>[(1,.pointer (some ⟨b1,0,none⟩)),(3,.pointer (some ⟨V,0,none⟩)),(4,.pointer (some ⟨ag,0,none⟩)),(16,.slice va g.vars.length vc),(17,.int .i64 g.vars.length),(18,.int .i64 x.1)])
  (fun x w'=>x.1<=g.vars.length/\FS w.heap.size V (C0 [] (g.vars.take x.1)) w' x.2/\Kp V w' x.2 b1/\Kp V w' x.2 ag/\Blk w' ag [NB V]/\Blk w' b1 (g.cells va vc pa pc ma mc)/\VDs (· < w.heap.size) w' g.vars va/\g.main.sits (· < w.heap.size) w' ma/\PDsC (· < w.heap.size) w' g.procs pa/\Ext w w')
  (fun x=>g.vars.length-x.1) (0,.slice none 0 0) sB ⟨kC _,b7,k1,kR,N,Y,E,L,f,X⟩ ?_
 clear b7 k1 kR N Y E L f X bk hs;rintro ⟨j,vj⟩ w3 ⟨hj,hF,k1,kR,N,Y,E,L,f,X⟩;simp only at hj hF k1 kR N Y E L f X;by_cases ap:j<g.vars.length
 . have F : ∀q,vj.ownBlock=some q->w.heap.size<=q/\q<w3.heap.size/\q≠b1/\q≠ag:=fun q hq=>⟨hF.own.ge hq,hF.own.lt hq,fun e=>k1.2.2 (e▸hq),fun e=>kR.2.2 (e▸hq)⟩
   have av:=k1.not;have aw:=kR.not;have bm:=k1.1;have bn:=kR.1;have a8:=hF.cell.lt;have b8:=X.size;obtain ⟨kb,ko,rfl,kS,ao⟩:=E.get (by intro e;rw [e] at ap;simp at ap);have r0:=ao j g.vars[j] (kg ap);have bz:(g.vars.take j).length=j:=by simp;omega
   have b9:=Gh (g.vars.take j) [];have ac:=E.take j;have az:=kh (Q5 (g.vars.take j) Aa g.vars[j].name);rw [bz] at az;have ax:=Je g.vars [] j ap;rw [lk] at ax;have ai:=kh (fun (w':wD) (x:Ext w3 w') (S:nP) (qa:oA) (qn qc:Nat) (hq:qn<=1000000) (p:PathAt S w' qa qn qc)=>Jd w.heap.size V (C0 [] (g.vars.take j)) vj (-1) (F2 (g.vars.take j) g.vars[j].name) g.vars[j].name S qa qn qc w' Aa hq p (hF.ext x));rw [<-ax] at ai;clear ao hF ax b9;have hm:(j:Int)=(j:Int):=rfl;generalize g.vars[j]=x at *;obtain ⟨xn,xk,xl⟩:=x;dsimp only at az ai;replace r0:Row w3 ⟨kb,ko+j*3,none⟩ [str xn,.int .u8 xk,.int .i64 xl]:=r0;generalize F2 (g.vars.take j) xn=ex at *;unfold NB at N;have X3:=lN w3;have X4:=mb (fun k=>k=V\/vj.ownBlock=some k) w3
   focus
    refine eK ?_;refine eA [_,_,_] ?_;intro fd fe c5 c6 ff fg;revert N L f X Y E ac r0 X3 X4;refine eE c6 ?_;intro N L f X Y E ac r0 X3 X4;refine C1 Pa (eS [_,_,_] c5 ?_);intro cb ae cc dr;revert N L f X Y E ac r0 X3 X4;refine eF cc ?_;intro N L f X Y E ac r0 X3 X4;refine cT (AE (fun wz=>Ext cb wz) 12 (.pure 0 (.pure 1 (.pure 3 (.pure 4 (.pure 5 (.pure 6 (.pure 7 (.pure 8 (.pure 9 (.pure 10 (.fork 2 (.fork 11 .tail .none) (.fork 11 (.fork 2 .tail .none) .none)))))))))))) mixed BD (Ak (Ac (Ac (Ak (Ac An))))) ?_);intro cd bs _;have ad:(fun wz=>Ext cb wz) cd:=bs;simp only at ad;have bo:=ae;have a9:=N;have bb:=L;have bd:=f;have be:=Y;have bf:=E;have b0:=ac;have bt:=r0;revert ae N L f X Y E ac r0 X3 X4;refine eY bs ?_;intro ds ae N L f X Y E ac r0 X3 X4;refine ⟨ad,?_⟩;refine eT ?_;refine Tq rfl (JA Ab rfl rfl rfl rfl hm Aa) (Tq rfl Pg (Tq rfl (Db bo) ?_));refine A1 rfl (xS [_]) rfl ?_ aFh ?kra18;rintro _ dt ⟨du,rfl,a5,dv⟩;have a0:=a5.blk;dsimp only at a0;have ce:=a5.ext;have dw:=a5.pos;have dx:=a5.size;revert ad ae N L f X Y E ac r0 X3 X4;refine eE ce ?_;intro ad ae N L f X Y E ac r0 X3 X4;refine ⟨ad,?_⟩;refine tC rfl rfl (az.out _ _ _ _ ac) ?_;rintro _ dy ⟨⟨⟩,cf⟩;revert a0 ad ae N L f X Y E ac r0 X3 X4;refine eY cf ?_;intro dz a0 ad ae N L f X Y E ac r0 X3 X4;refine ⟨ad,?_⟩;refine AI rfl ?_;refine Au (BU (fi:=[]) (ca:=[.pointer (some ⟨V,0,none⟩)]) BD rfl rfl (ai.out _ Af _ _ _ _ Aa (SE Af rfl)) (fun _ _ h=>h.ret)) rfl ?_ aFh;rintro _ d0 ⟨⟨⟩,⟨c7,⟨d2,⟨aj,d3⟩⟩⟩⟩;have d4:=aj.size;have a0:=lW a0 aj (fun h=>by (rcases h with h|h;omega;have:=F _ h;omega));have ae:=lW ae aj (fun h=>by (rcases h with h|h;omega;have:=F _ h;omega));have N:=lW N aj (aw);have L:=mo L aj (fun b hb h=>by (rcases h with h|h;omega;have:=F _ h;omega));have f:=PDsC.fr f aj (fun b hb h=>by (rcases h with h|h;omega;have:=F _ h;omega));have X:=mt X aj (fun k hk=>by (rcases hk with h|h;omega;have:=F _ h;omega));have Y:=lW Y aj (av);have E:=mv E aj (fun b hb h=>by (rcases h with h|h;omega;have:=F _ h;omega))
    have ac:=mv ac aj (fun b hb h=>by (rcases h with h|h;omega;have:=F _ h;omega));have X4:=Fr.fr X4 aj (fun k hk=>kj hk);refine Ah (Ad (Ai (Ag (C1 V7 (C1 Mv (Ah ?_))))));rotate_left;refine tC rfl rfl (az.out _ _ _ _ ac) ?_;rintro _ d5 ⟨⟨⟩,cg⟩;revert ad ae N L f X Y E ac r0 X3 X4;refine eY cg ?_;intro d6 ad ae N L f X Y E ac r0 X3 X4;refine ⟨ad,?_⟩;refine A1 rfl (xS [_]) rfl ?_ aFh A9;rintro _ d7 ⟨d8,rfl,a6,d9⟩;have bg:=a6.blk;dsimp only at bg;have ch:=a6.ext;have ea:=a6.pos;have eb:=a6.size;revert ad ae N L f X Y E ac r0 X3 X4;refine eE ch ?_;intro ad ae N L f X Y E ac r0 X3 X4;refine ⟨ad,?_⟩;refine AI rfl ?_;refine Au (BU (fi:=[]) (ca:=[.pointer (some ⟨V,0,none⟩)]) BD rfl rfl (ai.out _ Af _ _ _ _ Aa (SE Af rfl)) (fun _ _ h=>h.ret)) rfl ?_ aFh;rintro _ ec ⟨⟨⟩,⟨c8,⟨ed,⟨ak,ee⟩⟩⟩⟩;have ef:=ak.size;have bg:=lW bg ak (fun h=>by (rcases h with h|h;omega;have:=F _ h;omega));have ae:=lW ae ak (fun h=>by (rcases h with h|h;omega;have:=F _ h;omega));have N:=lW N ak (aw);have L:=mo L ak (fun b hb h=>by (rcases h with h|h;omega;have:=F _ h;omega));have f:=PDsC.fr f ak (fun b hb h=>by (rcases h with h|h;omega;have:=F _ h;omega));have X:=mt X ak (fun k hk=>by (rcases hk with h|h;omega;have:=F _ h;omega));have Y:=lW Y ak (av);have E:=mv E ak (fun b hb h=>by (rcases h with h|h;omega;have:=F _ h;omega));have ac:=mv ac ak (fun b hb h=>by (rcases h with h|h;omega;have:=F _ h;omega));have X4:=Fr.fr X4 ak (fun k hk=>kj hk);refine Ah (Ad (Ai (Ag (C1 V7 (C1 Mv (Ah ?_))))));rotate_left
   . have e4:=NI X4 Af Aa;exact Ay (j+1,_) sB ⟨by simp only;omega,Af,k1.eff e4,kR.eff e4,N,Y,E,L,f,X⟩ (by simp only;omega)
   . have e4:=NI X4 Af Aa;exact Ay (j+1,_) sB ⟨by simp only;omega,Af,k1.eff e4,kR.eff e4,N,Y,E,L,f,X⟩ (by simp only;omega)
 . obtain rfl:j=g.vars.length:=by omega
   rw [kE] at hF;refine cS (C1 V3 (cT (Al (E4 (DP (AQ (AQ (Bs (Ai (Al (cS ?_)))))))))));refine C1 Pf (C1 (Pl Y) (C1 Pz (C1 Mv (cT ?_))));refine Ax ?_;refine AM (ι:=Nat×Value) (fun x=>[(1,.pointer (some ⟨b1,0,none⟩)),(3,.pointer (some ⟨V,0,none⟩)),(4,.pointer (some ⟨ag,0,none⟩)),(38,.slice pa g.procs.length pc),(39,.int .i64 g.procs.length),(40,.int .i64 x.1)])
    (fun x w'=>x.1<=g.procs.length/\FS w.heap.size V (C0 [] g.vars+Fe g.procs 0 (g.procs.take x.1)) w' x.2/\Kp V w' x.2 b1/\Kp V w' x.2 ag/\Blk w' ag [NB V]/\Blk w' b1 (g.cells va vc pa pc ma mc)/\VDs (· < w.heap.size) w' g.vars va/\g.main.sits (· < w.heap.size) w' ma/\PDsC (· < w.heap.size) w' g.procs pa/\Ext w w')
    (fun x=>g.procs.length-x.1) (0,vj) sB ⟨kC _,hF,k1,kR,N,Y,E,L,f,X⟩ ?_
   clear hF k1 kR N Y E L f X ap hj;rintro ⟨j,vj⟩ w3 ⟨hj,hF,k1,kR,N,Y,E,L,f,X⟩;simp only at hj hF k1 kR N Y E L f X;have b9:=Gh g.vars [];by_cases ap:j<g.procs.length
   . have F : ∀q,vj.ownBlock=some q->w.heap.size<=q/\q<w3.heap.size/\q≠b1/\q≠ag:=fun q hq=>⟨hF.own.ge hq,hF.own.lt hq,fun e=>k1.2.2 (e▸hq),fun e=>kR.2.2 (e▸hq)⟩
     have av:=k1.not;have aw:=kR.not;have bm:=k1.1;have bn:=kR.1;have a8:=hF.cell.lt;have b8:=X.size;have ci:=LA g.procs 2009 (g.procs.take j) 0 (fun i p hp=>by
      obtain ⟨c1,c2,-,c4⟩:=Gi (o4 p (List.mem_of_mem_take hp));obtain ⟨-,-,c3⟩:=body_iff.1 c4;have h1:=Gh p.params [];have h2:=Ui g.procs p.body p.params;unfold NE;split<;>omega)
     have c9:(g.procs.take j).length*2009<=64*2009:=Nat.mul_le_mul_right _ (by simp;omega);have ax:=Me g.procs g.procs 0 j ap;rw [Nat.zero_add] at ax;have da:=YS ap;obtain ⟨c1,c2,-,c4⟩:=Gi (o4 _ (kq ap));obtain ⟨-,-,c3⟩:=body_iff.1 c4;have ab:=f.pds;obtain ⟨kb,ko,rfl,kS,ao⟩:=f.get (by intro e;rw [e] at ap;simp at ap);obtain ⟨qa,qc,ba,bc,r0,Z,aa,db⟩:=ao j g.procs[j] (kg ap);clear ao c4;have cj:=kh (Uh g Aa g.procs[j].name (· < w.heap.size) va vc (some ⟨kb,ko,none⟩) pc ma mc);generalize hM:C0 [] g.vars+Fe g.procs 0 (g.procs.take j)=M at *;have fh:M<=1000000:=by omega
     generalize Jc g.procs g.procs[j].name=np at *;generalize g.procs[j]=x at *;refine eK ?_;refine eA [_] ?_;intro ay fj b2 dc fk fl;revert N E L X Y f ab hF r0 Z aa;refine eE dc ?_;intro N E L X Y f ab hF r0 Z aa;refine eA [_,_,_,_,_,_] ?_;intro a1 eg bh ck eh ei;revert b2 N E L X Y f ab hF r0 Z aa;refine eE ck ?_;intro b2 N E L X Y f ab hF r0 Z aa;refine eS [_] b2 ?_;intro ej O bi ek;revert bh N E L X Y f ab;refine eF bi ?_;intro bh N E L X Y f ab;have hF:=FS.fr hF bi (fun k hk=>⟨Aa,fun e=>by have:=F _ e;omega⟩);revert r0 Z aa;refine eF bi ?_;intro r0 Z aa;refine eS [_,_,_,_,_,_] bh ?_;intro al U bj el;revert O N E L X Y f ab;refine eF bj ?_;intro O N E L X Y f ab;have hF:=FS.fr hF bj (fun k hk=>⟨Aa,fun e=>by have:=F _ e;omega⟩);revert r0 Z aa;refine eF bj ?_;intro r0 Z aa;refine cT (Al ?_);have am:Kp V al vj ay:=⟨Aa,Aa,fun e=>by have:=F _ e;omega⟩;have aq:Kp V al vj a1:=⟨Aa,Aa,fun e=>by have:=F _ e;omega⟩;have k1:=k1.grow (w':=al) Aa;have kR:=kR.grow (w':=al) Aa;have ai:=kh (fun (w':wD) (x':Ext al w')=>Jd w.heap.size V M vj j 22 x.name (fun _=>True) none 0 0 w' Aa Aa PathAt.nil (hF.ext x'));rw [show M+TA 22=M+1 from rfl] at ai;refine Fk (ι:=Value) (fun _=>[(1,.pointer (some ⟨b1,0,none⟩)),(3,.pointer (some ⟨V,0,none⟩)),(4,.pointer (some ⟨ag,0,none⟩)),(38,.slice (some ⟨kb,ko,none⟩) g.procs.length pc),(39,.int .i64 g.procs.length),(40,.int .i64 j),(7,.pointer (some ⟨ay,0,none⟩)),(8,.pointer (some ⟨a1,0,none⟩))]) (fun v2 w'=>FS w.heap.size V (M+(if np<(j:Int) then 1 else 0)) w' v2/\Kp V w' v2 b1/\Kp V w' v2 ag/\Kp V w' v2 ay/\Kp V w' v2 a1/\Blk w' ag [NB V]/\Blk w' b1 (g.cells va vc (some ⟨kb,ko,none⟩) pc ma mc)/\VDs (· < w.heap.size) w' g.vars va/\g.main.sits (· < w.heap.size) w' ma/\PDsC (· < w.heap.size) w' g.procs (some ⟨kb,ko,none⟩)/\Ext w w'/\Blk w' ay [.int .i64 j]/\Blk w' a1 (x.cells qa qc ba bc)/\VDs (· < w.heap.size) w' x.params qa/\x.body.sits (· < w.heap.size) w' ba) ?_ ?_
     . have X3:=lN al;have X4:=mb (fun k=>k=V\/vj.ownBlock=some k) al;unfold NB at N
       focus
        refine Al (AE (fun wz=>Ext al wz) 5 (.pure 0 (.pure 1 (.pure 2 (.pure 4 (.fork 3 .tail .none))))) mixed BD (Ac (Ac (Ak (Ac (Ac (Ak (Ac An))))))) ?_);intro dd cl _;have a2:(fun wz=>Ext al wz) dd:=cl;simp only at a2;have bp:=U;have bq:=O;have a9:=N;have bf:=E;have bb:=L;have be:=Y;have bd:=f;have cv:=ab;have em:=hF;have bt:=r0;have b3:=Z;have b4:=aa;revert U O N E L X Y f ab hF r0 Z aa X3 X4;refine eY cl ?_;intro fm U O N E L X Y f ab hF r0 Z aa X3 X4;refine ⟨a2,?_⟩;refine Tq rfl (xL [_,_,_,_,_,_] (fun wz hz=>(l7 be hz))) ?_;refine eT ?_;refine tC rfl rfl (cj.out _ Af) ?_;rintro _ fo ⟨⟨⟩,de⟩;revert a2 U O N E L X Y f ab hF r0 Z aa X3 X4;refine eY de ?_;intro fp a2 U O N E L X Y f ab hF r0 Z aa X3 X4;refine ⟨a2,?_⟩;refine AI rfl ?_;refine eK ?_;refine AF rfl (fun df=>?_) (fun df=>?_);refine eK ?_;refine Au (BU (fi:=[]) (ca:=[.pointer (some ⟨V,0,none⟩)]) BD rfl rfl (ai.out _ Af) (fun _ _ h=>h.ret)) rfl ?_ aFh;rintro _ en ⟨⟨⟩,⟨dg,⟨eo,⟨ah,ep⟩⟩⟩⟩;have eq:=ah.size;have U:=lW U ah (fun h=>by (rcases h with h|h;omega;have:=F _ h;omega));have O:=lW O ah (fun h=>by (rcases h with h|h;omega;have:=F _ h;omega));have N:=lW N ah (aw);have E:=mv E ah (fun b hb h=>by (rcases h with h|h;omega;have:=F _ h;omega));have L:=mo L ah (fun b hb h=>by (rcases h with h|h;omega;have:=F _ h;omega));have X:=mt X ah (fun k hk=>by (rcases hk with h|h;omega;have:=F _ h;omega));have Y:=lW Y ah (av);have f:=PDsC.fr f ah (fun b hb h=>by (rcases h with h|h;omega;have:=F _ h;omega));have ab:=PDs.fr ab ah (fun b hb h=>by (rcases h with h|h;omega;have:=F _ h;omega));clear hF r0;have Z:=mv Z ah (fun b hb h=>by (rcases h with h|h;omega;have:=F _ h;omega));have aa:=mo aa ah (fun b hb h=>by (rcases h with h|h;omega;have:=F _ h;omega));have X4:=Fr.fr X4 ah (fun k hk=>kj hk);refine Ah ?_;rotate_left;refine Av ?_;rotate_left
       . have e4:=NI X4 Af Aa;exact Cq _ sB ⟨by rw [AH Af];assumption,k1.eff e4,kR.eff e4,am.eff e4,aq.eff e4,N,Y,E,L,f,X,O,U,Z,aa⟩
       . exact Cq vj sB ⟨by rw [At Af];exact hF,k1.grow Aa,kR.grow Aa,am.grow Aa,aq.grow Aa,N,Y,E,L,f,X,O,U,Z,aa⟩
     . clear U O N Y E L f ab hF r0 Z aa X k1 kR am aq ai cj F av aw bm bn a8;rintro v2 w4 ⟨hF,k1,kR,am,aq,N,Y,E,L,f,X,O,U,Z,aa⟩;obtain ⟨d1,b5⟩ : ∃d1:Nat,d1=(if np<(j:Int) then 1 else 0):=⟨_,rfl⟩
       have er:d1<=1:=by rw [b5];split<;>omega
       rw [<-b5] at hF;refine Al (cS (C1 Pf (C1 (Pl U) (C1 Pz (C1 Mv (cT ?_))))));refine Ax ?_;refine AM (ι:=Nat×Value) (fun y=>[(1,.pointer (some ⟨b1,0,none⟩)),(3,.pointer (some ⟨V,0,none⟩)),(4,.pointer (some ⟨ag,0,none⟩)),(38,.slice (some ⟨kb,ko,none⟩) g.procs.length pc),(39,.int .i64 g.procs.length),(40,.int .i64 j),(7,.pointer (some ⟨ay,0,none⟩)),(8,.pointer (some ⟨a1,0,none⟩)),(57,.slice qa x.params.length qc),(58,.int .i64 x.params.length),(59,.int .i64 y.1)])
        (fun y w'=>y.1<=x.params.length/\FS w.heap.size V (M+d1+C0 [] (x.params.take y.1)) w' y.2/\Kp V w' y.2 b1/\Kp V w' y.2 ag/\Kp V w' y.2 ay/\Kp V w' y.2 a1/\Blk w' ag [NB V]/\Blk w' b1 (g.cells va vc (some ⟨kb,ko,none⟩) pc ma mc)/\VDs (· < w.heap.size) w' g.vars va/\g.main.sits (· < w.heap.size) w' ma/\PDsC (· < w.heap.size) w' g.procs (some ⟨kb,ko,none⟩)/\Ext w w'/\Blk w' ay [.int .i64 j]/\Blk w' a1 (x.cells qa qc ba bc)/\VDs (· < w.heap.size) w' x.params qa/\x.body.sits (· < w.heap.size) w' ba)
        (fun y=>x.params.length-y.1) (0,v2) sB ⟨kC _,hF,k1,kR,am,aq,N,Y,E,L,f,X,O,U,Z,aa⟩ ?_
       clear hF k1 kR am aq N Y E L f X O U Z aa;rintro ⟨i,vi⟩ w5 ⟨hi,hF,k1,kR,am,aq,N,Y,E,L,f,X,O,U,Z,aa⟩;simp only at hi hF k1 kR am aq N Y E L f X O U Z aa;have dh:=Gh (x.params.take i) [];have F : ∀q,vi.ownBlock=some q->w.heap.size<=q/\q<w5.heap.size/\q≠b1/\q≠ag/\q≠ay/\q≠a1:=fun q hq=>⟨hF.own.ge hq,hF.own.lt hq,fun e=>k1.2.2 (e▸hq),fun e=>kR.2.2 (e▸hq),fun e=>am.2.2 (e▸hq),fun e=>aq.2.2 (e▸hq)⟩
       have av:=k1.not;have aw:=kR.not;have bm:=k1.1;have bn:=kR.1;have cm:=am.not;have cn:=aq.not;have fq:=am.1;have fs:=aq.1;have es:=hF.cell.lt;by_cases a7:i<x.params.length
       . obtain ⟨zb,zo,rfl,zS,ao⟩:=Z.get (by intro e;rw [e] at a7;simp at a7);have r0:=ao i x.params[i] (kg a7);have bz:(x.params.take i).length=i:=by simp;omega
         have ac:=Z.take i;have az:=kh (Q5 (x.params.take i) Aa x.params[i].name);rw [bz] at az;have ax:=Je x.params [] i a7;rw [lk] at ax;have bu:M+d1+C0 [] (x.params.take (i+1))=M+d1+C0 [] (x.params.take i)+TA (F2 (x.params.take i) x.params[i].name):=by rw [ax];omega
         have ai:=kh (fun (w':wD) (x':Ext w5 w')=>Jd w.heap.size V (M+d1+C0 [] (x.params.take i)) vi j (F2 (x.params.take i) x.params[i].name) x.params[i].name (fun _=>True) none 0 0 w' Aa Aa PathAt.nil (hF.ext x'));rw [<-bu] at ai;clear ao hF ax bu;have hm:(i:Int)=(i:Int):=rfl;generalize x.params[i]=y at *;obtain ⟨yn,yk,yl⟩:=y;dsimp only at az ai;replace r0:Row w5 ⟨zb,zo+i*3,none⟩ [str yn,.int .u8 yk,.int .i64 yl]:=r0;generalize F2 (x.params.take i) yn=ex at *;unfold NB at N;have X3:=lN w5;have X4:=mb (fun k=>k=V\/vi.ownBlock=some k) w5;refine eK ?_;refine eA [_,_,_] ?_;intro ft fu di dk fv fw;revert N Y E L f X O aa U Z ac r0 X3 X4;refine eE dk ?_;intro N Y E L f X O aa U Z ac r0 X3 X4;refine C1 Pa (eS [_,_,_] di ?_);intro co ar cp et;revert N Y E L f X O aa U Z ac r0 X3 X4;refine eF cp ?_;intro N Y E L f X O aa U Z ac r0 X3 X4;refine cT (AE (fun wz=>Ext co wz) 11 (.pure 0 (.pure 1 (.pure 2 (.pure 3 (.pure 4 (.pure 5 (.pure 6 (.pure 7 (.pure 8 (.pure 9 (.fork 10 .tail .none))))))))))) mixed BD (Ak (Ac (Ac (Ak (Ac (Ak (Ac (Ac (Ak (Ac An)))))))))) ?_);intro cq bv _;have au:(fun wz=>Ext co wz) cq:=bv;simp only at au;have br:=ar;have a9:=N;have be:=Y;have bf:=E;have bb:=L;have bd:=f;have bq:=O;have b4:=aa;have bp:=U;have b3:=Z;have b0:=ac;have bt:=r0;revert ar N Y E L f X O aa U Z ac r0 X3 X4;refine eY bv ?_;intro eu ar N Y E L f X O aa U Z ac r0 X3 X4;refine ⟨au,?_⟩;refine eT ?_;refine Tq rfl (JA Ab rfl rfl rfl rfl hm Aa) (Tq rfl Pg (Tq rfl (Db br) ?_));refine tC rfl rfl (az.out _ _ _ _ ac) ?_
         rintro _ ew ⟨⟨⟩,cr⟩;revert au ar N Y E L f X O aa U Z ac r0 X3 X4;refine eY cr ?_;intro ey au ar N Y E L f X O aa U Z ac r0 X3 X4;refine ⟨au,?_⟩;refine AI rfl ?_;refine Au (BU (fi:=[]) (ca:=[.pointer (some ⟨V,0,none⟩)]) BD rfl rfl (ai.out _ Af) (fun _ _ h=>h.ret)) rfl ?_ aFh;rintro _ ez ⟨⟨⟩,⟨dl,⟨e0,⟨af,e1⟩⟩⟩⟩;have e2:=af.size;have ar:=lW ar af (fun h=>by (rcases h with h|h;omega;have:=F _ h;omega));have N:=lW N af (aw);have Y:=lW Y af (av);have E:=mv E af (fun b hb h=>by (rcases h with h|h;omega;have:=F _ h;omega));have L:=mo L af (fun b hb h=>by (rcases h with h|h;omega;have:=F _ h;omega));have f:=PDsC.fr f af (fun b hb h=>by (rcases h with h|h;omega;have:=F _ h;omega));have X:=mt X af (fun k hk=>by (rcases hk with h|h;omega;have:=F _ h;omega));have O:=lW O af (cm);have aa:=mo aa af (fun b hb h=>by (rcases h with h|h;omega;have:=F _ h;omega));have U:=lW U af (cn);have Z:=mv Z af (fun b hb h=>by (rcases h with h|h;omega;have:=F _ h;omega));have ac:=mv ac af (fun b hb h=>by (rcases h with h|h;omega;have:=F _ h;omega));have X4:=Fr.fr X4 af (fun k hk=>kj hk);refine Ah (Ad (Ai (Ag (C1 V7 (C1 Mv (Ah ?_))))))
         have e4:=NI X4 Af Aa;exact Ay (i+1,_) sB ⟨by simp only;omega,Af,k1.eff e4,kR.eff e4,am.eff e4,aq.eff e4,N,Y,E,L,f,X,O,U,Z,aa⟩ (by simp only;omega)
       . obtain rfl:i=x.params.length:=by omega
         rw [kE] at hF dh;have a3:=kh (fun (w':wD) (x':Ext w5 w') (h1:x.body.sits (· < w.heap.size) w' ba) (h2:PDs (· < w.heap.size) w' g.procs (some ⟨kb,ko,none⟩)) (h3:VDs (· < w.heap.size) w' x.params qa)=>
          Sy w.heap.size V Aa 92 [.pointer (some ⟨ag,0,none⟩),.pointer (some ⟨ay,0,none⟩)] BD _ (WT w.heap.size V ag ay j) g Aa va vc (some ⟨kb,ko,none⟩) pc ma mc (x.body.size+1)
           x.body x.params (· < w.heap.size) (fun _=>False) ba bc qa qc none 0 0 w' vi (M+d1+C0 [] x.params) Aa Aa Aa Aa h1 h2 h3 db PathAt.nil
           (fun b hb=>⟨by have:=x'.size;have:=X.size;omega,Aa,fun e=>by have:=F _ e;omega⟩) (fun _ h=>h.elim) (hF.ext x') ⟨N.ext x',O.ext x',kR.grow x'.size,am.grow x'.size⟩)
         have ct:M+d1+C0 [] x.params+x.body.flt g.procs x.params=C0 [] g.vars+Fe g.procs 0 (g.procs.take (j+1)):=by
          have dm:d1=if (Gr g.procs x.name).getD j<j then 1 else 0:=by
           rw [b5];have h:=decide_eq_decide.1 da;by_cases h1:np<(j:Int)
           . rw [AH h1,AH (h.1 h1)]
           . rw [At h1,At (fun e=>h1 (h.2 e))]
          rw [ax,dm,NE];omega
         rw [ct] at a3;have ab:=f.pds;have X3:=lN w5;have X4:=mb (fun k=>k=V\/vi.ownBlock=some k) w5;refine eK ?_;refine C1 (FA rfl) (cC rfl (a3.out _ Af Af Af Af) ?_);rintro _ fx ⟨⟨⟩,⟨e3,⟨fy,⟨an,fz⟩⟩⟩⟩;have f0:=an.size;have N:=lW N an (aw);have Y:=lW Y an (av);have E:=mv E an (fun b hb h=>by (rcases h with h|h;omega;have:=F _ h;omega));have L:=mo L an (fun b hb h=>by (rcases h with h|h;omega;have:=F _ h;omega));have f:=PDsC.fr f an (fun b hb h=>by (rcases h with h|h;omega;have:=F _ h;omega));have X:=mt X an (fun k hk=>by (rcases hk with h|h;omega;have:=F _ h;omega));have O:=lW O an (cm);have U:=lW U an (cn);have Z:=mv Z an (fun b hb h=>by (rcases h with h|h;omega;have:=F _ h;omega));have aa:=mo aa an (fun b hb h=>by (rcases h with h|h;omega;have:=F _ h;omega));clear hF;have ab:=PDs.fr ab an (fun b hb h=>by (rcases h with h|h;omega;have:=F _ h;omega));have X4:=Fr.fr X4 an (fun k hk=>kj hk);refine Ah (Ad (Ai (Ag (C1 V7 (C1 Mv (Ah ?_))))));have e4:=NI X4 Af Aa;exact Ay (j+1,_) sB ⟨by simp only;omega,Af,k1.eff e4,kR.eff e4,N,Y,E,L,f,X⟩ (by simp only;omega)
   . obtain rfl:j=g.procs.length:=by omega
     rw [kE] at hF;have F : ∀q,vj.ownBlock=some q->w.heap.size<=q/\q<w3.heap.size/\q≠b1/\q≠ag:=fun q hq=>⟨hF.own.ge hq,hF.own.lt hq,fun e=>k1.2.2 (e▸hq),fun e=>kR.2.2 (e▸hq)⟩
     have av:=k1.not;have aw:=kR.not;have bm:=k1.1;have bn:=kR.1;have a8:=hF.cell.lt;have b8:=X.size;obtain ⟨-,-,c3⟩:=body_iff.1 o5;have ci:=LA g.procs 2009 g.procs 0 (fun i p hp=>by
      obtain ⟨c1,c2,-,c4⟩:=Gi (o4 p hp);obtain ⟨-,-,c3⟩:=body_iff.1 c4;have h1:=Gh p.params [];have h2:=Ui g.procs p.body p.params;unfold NE;split<;>omega)
     have c9:g.procs.length*2009<=64*2009:=Nat.mul_le_mul_right _ o2;have ab:=f.pds;have a3:=kh (fun (w':wD) (x':Ext w3 w') (h1:g.main.sits (· < w.heap.size) w' ma) (h2:PDs (· < w.heap.size) w' g.procs pa) (h3:VDs (· < w.heap.size) w' g.vars va)=>
      Sy w.heap.size V Aa 93 [.pointer (some ⟨ag,0,none⟩),.pointer (some ⟨b1,0,none⟩)] BD _ (WU w.heap.size V ag b1 g va vc pa pc ma mc) g Aa va vc pa pc ma mc (g.main.size+1)
       g.main g.vars (· < w.heap.size) (fun _=>False) ma mc va vc none 0 0 w' vj (C0 [] g.vars+Fe g.procs 0 g.procs) Aa Aa Aa Aa h1 h2 h3 cx PathAt.nil
       (fun b hb=>⟨by have:=x'.size;omega,Aa,fun e=>by have:=F _ e;omega⟩) (fun _ h=>h.elim) (hF.ext x') ⟨N.ext x',Y.ext x',kR.grow x'.size,k1.grow x'.size⟩)
     rw [show C0 [] g.vars+Fe g.procs 0 g.procs+g.main.flt g.procs g.vars=g.flt from rfl] at a3;have X3:=lN w3;clear hF;refine eK ?_;refine C1 (FA rfl) (cC rfl (a3.out _ Af Af Af Af) ?_);rintro _ f1 ⟨⟨⟩,⟨cu,⟨b6,⟨a4,dn⟩⟩⟩⟩;have f2:=a4.size;have N:=lW N a4 (aw);have Y:=lW Y a4 (av);have E:=mv E a4 (fun b hb h=>by (rcases h with h|h;omega;have:=F _ h;omega));have L:=mo L a4 (fun b hb h=>by (rcases h with h|h;omega;have:=F _ h;omega));have f:=PDsC.fr f a4 (fun b hb h=>by (rcases h with h|h;omega;have:=F _ h;omega));have X:=mt X a4 (fun k hk=>by (rcases hk with h|h;omega;have:=F _ h;omega));have ab:=PDs.fr ab a4 (fun b hb h=>by (rcases h with h|h;omega;have:=F _ h;omega));refine cT ?_;have dp : ∃a c,cu = .slice a g.flt c:=by
      obtain ⟨f3,h1,-⟩:=b6.own.ex;rw [List.length_replicate] at h1;rcases h1.row with ⟨h2,h0,-⟩|⟨q,cap,h2,-⟩
      . exact ⟨none,0,by rw [h2,h0]⟩
      . exact ⟨_,_,h2⟩
     have hc:=b6.cell;obtain ⟨ra,rc,rfl⟩:=dp;clear b6 dn N Y E L f ab;refine eK ?_;refine xR ?_;exact ⟨_,_,rfl,X⟩
def Mh {x:Nd} : ∀ {l:List Nd},x∈Cj l -> ∃t∈l,x∈t.walk
 | [],h=>by simp [Cj] at h
 | t::r,h=>by
  simp only [Cj,List.mem_append] at h;rcases h with h|h
  . exact ⟨t,A6,h⟩
  . obtain ⟨u,f,E⟩:=Mh h;exact ⟨u,by simp [f],E⟩
def WX {k n:Int} {s:lB} {l:List Nd} (h:(Nd.mk k n s l).good) : ∀x∈l,x.good:=by
 intro x f;rcases h with h|h|h
 . cases DV h with
   | call _ _ _ L=>exact kp (kp (JZ (lG.1 L x f)))
   | upd _ h1 E=>simp only [kF,kI,or_false] at f;rcases f with rfl|rfl<;>first|exact kp (kp (Bw Af))|exact kp (kp Af)
   | swap h1 E=>simp only [kF,kI,or_false] at f;rcases f with rfl|rfl<;>exact kp (kp (Bw Af))
   | stack _ _ h1=>simp only [kF,kI,or_false] at f;rw [f];exact kp (kp (Bw h1))
   | tape _ h1=>simp only [kF,kI,or_false] at f;rw [f];exact kp (kp (Bw h1))
   | branch _ h1 E M N=>simp only [kF,kI,or_false] at f;rcases f with rfl|rfl|rfl|rfl<;>first|exact kp (kp Af)|exact kp (kj Af)
   | local_ _ h1 E M=>simp only [kF,kI,or_false] at f;rcases f with rfl|rfl|rfl<;>first|exact kp (kp Af)|exact kp (kj Af)
   | lstack _ h1=>simp only [kF,kI,or_false] at f;rw [f];exact kp (kj h1)
 . obtain ⟨e,F⟩:=Fx h;simp only [Nd.kids] at F;exact kj (rowStmt_iff.1 F x f)
 . exact kp (kp ((Pr h).2.1 x f))
def WY (N:Nat) : ∀t:Nd,t.size<N->t.good->t.wf -> ∀x∈t.walk,x.good/\x.wf/\x.size<=t.size:=by
 induction N with
 | zero=>intro t h;omega
 | succ N O=>
  rintro ⟨k,n,s,l⟩ U M E x f;rw [Nd.walk,kF] at f;rcases f with rfl|f
  . exact ⟨M,E,kv _⟩
  . obtain ⟨t,F,L⟩:=Mh f;have X:=Dm F;simp only [lR] at U ⊢;obtain ⟨h1,V,Y⟩:=O t Aa (WX M t F) (BZ (by simp only [Nd.wf] at E;exact E.2.2.2.2.2.2) t F) x L;exact ⟨h1,V,Aa⟩
def NJ {t:Nd} (h:t.isBlock=true) (f:t.wf) : ∀x∈t.walk,x.good/\x.wf/\x.size<=t.size:=WY (t.size+1) t Aa (kp (kj h)) f
def KX {P:Program} {n:Nat} {l:Sl} {tab:Tab} {zt:E9} {ty:TypeId} {w:wD} {x y:Operand} {t e sz1 B B' c d:Nat} {a a':oA} {sE:Sk} {zs:lV} {xs ys:List Int} (T:TabOk P tab) (Z:CU P zt) (ht:AC tab t=some (.slice e,sz1)) (hE:AC tab e=some (sE,4)) (hz:Dj zt e=some zs) (hzl:zs.length=4)
 (hby:DQ P e=true) (hx:ev l x=some (.slice a xs.length c)) (hy:ev l y=some (.slice a' ys.length d)) (hox:OwnQ rejShape w (fun _=>False) B e (.slice a xs.length c) xs) (hoy:OwnQ rejShape w (fun _=>False) B' e (.slice a' ys.length d) ys) (hxn:xs=[]->a=none/\c=0) (hyn:ys=[]->a'=none/\d=0) (hlen:xs.length+ys.length<=10000000000) (hB:B<=w.heap.size) :
 Ce P n l (.call ⟨.builtin .append,#[x,y],#[t,t]⟩) ty w (IX fun o w'=> ∃a2 c2,o = .slice a2 (xs++ys).length c2/\OwnQ rejShape w' (fun _=>False) B e (.slice a2 (xs++ys).length c2) (xs++ys)/\Fr (fun k=>(lm a xs.length c).ownBlock=some k) w w'/\(xs++ys=[]->a2=none/\c2=0)):=by
 by_cases b:ys=[]
 . obtain ⟨rfl,rfl⟩:=hyn b;subst b;rw [ll];obtain ⟨i,hi,hs⟩:=(T _ _ _ hE).info;have hun:=(T _ _ _ ht).under;have key:(Builtin.append_ #[t,t] ty #[.slice a xs.length c,.slice none 0 0]).run P w = .ok (.slice a xs.length c) w:=by
    obtain ⟨css,h1,-⟩:=hox.ex;exact run_append_owned_none (P:=P) w B t ty e i 4 hun hi _ xs.length css.flatten h1
   unfold Ce;intro act dst pos after g next Q ha hn _;have e1:(execOp act.eval ⟨dst,.call ⟨.builtin .append,#[x,y],#[t,t]⟩,ty,pos,after,g⟩).run P w = .ok (.value (.slice a xs.length c)) w:=by
    simp only [ki] at hy;simp only [execOp,resolve,invoke,builtin,kB,kJ,lw,List.map_toArray,lr,List.map_nil,ha.ev hx,ha.ev hy,key]
   unfold lJ;rw [e1];exact hn _ _ ⟨a,c,rfl,hox,mb _ _,hxn⟩
 . obtain ⟨css,h1,h2,h3⟩:=hox.ex;obtain ⟨cys,k1,k2,k3⟩:=hoy.ex;have hpos:0<ys.length:=List.length_pos_iff.2 b;rcases k1.row with ⟨-,h0,-⟩|⟨g,cap,hv,-,-,hr⟩
   . omega
   simp only [kT] at hv;obtain ⟨rfl,-,-⟩:=hv;have hone:cys.flatten.all mm=true:=by
    rw [lG];intro u hu;obtain ⟨cs,hcs,hu⟩:=List.mem_flatten.1 hu;obtain ⟨j,hj,rfl⟩:=List.mem_iff_getElem.1 hcs;have:=rejShape.one (k3 j ys[j] cys[j] (kg Aa) (kg hj));exact lG.1 this u hu
   have hd:=EW (P:=P) (n:=n) (l:=l) (ty:=ty) T Z ht hE hz hzl hby rfl hx hy h1 hr k1.1 hone Aa Aa hB;unfold Ce at hd ⊢;intro act dst pos after gd next Q ha hn f;refine hd act dst pos after gd next Q ha (fun v' w' hG=>?_) (fun w' hG=>hG.elim);obtain ⟨g1,g2,g',cap',rfl,g4⟩:=hG;refine hn _ w' ⟨some ⟨g',0,none⟩,cap',by rw [j9],⟨css++cys,by rw [List.flatten_append,j9];exact g1,by simp [h2,k2],fun j z ds hz hd=>?_⟩,g2,fun e=>by simp [b] at e⟩;by_cases hj:j<xs.length
   . rw [lI hj] at hz;rw [lI Aa] at hd;exact h3 j z ds hz hd
   . rw [lH Aa] at hz;rw [lH Aa,h2] at hd;exact k3 _ z ds hz hd
def Ea (ps:List PD):List Int:=ps.flatMap fun p=>C3 p.body.walk
def PG.errs (g:PG):List Int:=if g.flt=0 then Ea g.procs++C3 g.main.walk else []
def SG {f:List PD} {j:Nat} (h:j<f.length):Ea (f.take (j+1))=Ea (f.take j)++C3 (f[j]).body.walk:=by
 unfold Ea;rw [ky h,List.flatMap_append];simp
def NK (K:Nat) : ∀f:List PD,(∀p∈f,p.body.size<=K)->(Ea f).length<=f.length*K
 | [],_=>by simp [Ea]
 | p::r,h=>by
  have h1:=NK K r (fun q E=>h q (by simp [E]));have F:=Ix p.body.walk;rw [I7] at F;have L:=h p A6;have e:Ea (p::r)=C3 p.body.walk++Ea r:=by simp [Ea]
  rw [e,j9,kf,Nat.add_mul];omega
set_option maxHeartbeats 8000000 in
def YX (g:PG) (ab:g.wf) (aj:g.ok=true) (S:nP) (va:oA) (vc:Nat) (pa:oA) (pc:Nat) (ma:oA) (mc:Nat) (w:wD) (V:g.sits S w va pa ma) (f:PDsC S w g.procs pa) (an:g.vars.length<=vc) :
 Calls prog 50 #[.agg (g.cells va vc pa pc ma mc).toArray] w (ChkR g.errs w):=by
 have HV:=kh (KW ab aj);have HS:=kh (fun S va vc pa pc ma mc w V hp hv=>SF g ab aj S va vc pa pc ma mc w V hp hv);obtain ⟨o1,o2,-,o4,o5⟩:=Jf aj;have f:=f.ltA;have V:=V.ltA;have X:=lN w;by_cases hf:g.flt=0
 . have he:g.errs=Ea g.procs++C3 g.main.walk:=AH hf;rw [he];rw [hf] at HS;have F:=V.main;obtain ⟨b1,-,b3⟩:=body_iff.1 o5;have HM:=kh (Vn (-1) g.main Aa (fun x hx=>by
    obtain ⟨h1,h2,h3⟩:=NJ b1 ab.main x hx;exact ⟨h1,h2,Aa⟩))
   refine Ae func50 ntmps50 rfl rfl ?_;refine cS (eB [_,_,_,_,_,_] ?_);intro b1 w2 O x5 p6 z7;revert f V X F;refine eE x5 ?_;intro f V X F;refine eK ?_;refine cC rfl (HV.out _ _ _ _ _ _ _ _ Af) ?_;rintro _ w9 ⟨⟨⟩,x8⟩;revert O f V X F;refine eY x8 ?_;intro bn O f V X F;refine eK ?_;refine eQ rfl (HS.out _ _ _ _ _ _ _ _ Af Af an) ?_;rintro _ bo ⟨bp,⟨bq,⟨⟨⟩,ar⟩⟩⟩;revert O f V X F;refine eY ar ?_;intro br O f V X F;refine Bl rfl rfl rfl (rfl) (C1 Pz (Bl rfl rfl rfl (rfl) (C1 V5 (C1 (Cd rfl rfl rfl) (cT (Ij (Av (Ai (cS (C1 Pa (cT ?_)))))))))));refine Al (cS (C1 Pf (C1 (Pl O) (C1 Pz (C1 Mv (cT ?_))))));refine Ax ?_;refine AM (ι:=Nat×oA×Nat) (fun y=>[(1,.pointer (some ⟨b1,0,none⟩)),(3,.slice y.2.1 (Ea (g.procs.take y.1)).length y.2.2),(16,.slice pa g.procs.length pc),(17,.int .i64 g.procs.length),(18,.int .i64 y.1)])
    (fun y w'=>y.1<=g.procs.length/\OwnQ rejShape w' (fun _=>False) (w.heap.size+1) 207 (.slice y.2.1 (Ea (g.procs.take y.1)).length y.2.2) (Ea (g.procs.take y.1))/\(Ea (g.procs.take y.1)=[]->y.2.1=none/\y.2.2=0)/\Blk w' b1 (g.cells va vc pa pc ma mc)/\PDsC (· < w.heap.size) w' g.procs pa/\g.main.sits (· < w.heap.size) w' ma/\Ext w w')
    (fun y=>g.procs.length-y.1) (0,none,0) sB ⟨kC _,OwnQ.nil,fun _=>⟨rfl,rfl⟩,O,f,F,X⟩ ?_
   clear O f F X V;rintro ⟨j,ra,rc⟩ w3 ⟨hj,L,ac,O,f,F,X⟩;simp only at hj L ac O f F X;have N : ∀q,(lm ra (Ea (g.procs.take j)).length rc).ownBlock=some q->w.heap.size+1<=q/\q<w3.heap.size:=fun q hq=>⟨L.ge hq,L.lt hq⟩
   have au:=NK 2000 (g.procs.take j) (fun p hp=>(body_iff.1 (Gi (o4 p (List.mem_of_mem_take hp))).2.2.2).2.2);have av:(g.procs.take j).length*2000<=64*2000:=Nat.mul_le_mul_right _ (by simp;omega);have bs:=X.size;have bt:=O.lt;by_cases aa:j<g.procs.length
   . obtain ⟨kb,ko,rfl,kS,ae⟩:=f.get (by intro e;rw [e] at aa;simp at aa);obtain ⟨qa,qc,ba,bc,r0,-,Y,-⟩:=ae j g.procs[j] (kg aa);obtain ⟨d1,-,d3⟩:=body_iff.1 (Gi (o4 _ (kq aa))).2.2.2;have aw:=SG aa;have ak:=Ix (g.procs[j]).body.walk;rw [I7] at ak;have HC:=kh (Vn j (g.procs[j]).body Aa (fun x hx=>by
      obtain ⟨h1,h2,h3⟩:=NJ d1 (ab.procs _ (kq aa)).body x hx;exact ⟨h1,h2,Aa⟩))
     clear ae d1;generalize g.procs[j]=x at *;generalize C3 x.body.walk=ys at *;generalize hE:Ea (g.procs.take j)=E at *
     focus
      refine eK ?_;refine eA [_,_,_,_,_,_] ?_;intro bu bv ax ay bw bx;revert F X O f r0 Y L;refine eE ay ?_;intro F X O f r0 Y L;refine C1 Pa (eS [_,_,_,_,_,_] ax ?_);intro bz Z af a2;revert F X O f r0 Y;refine eF af ?_;intro F X O f r0 Y;have L:=OwnQ.fr L af (fun k hk=>⟨id,fun e=>by have:=N _ e;omega⟩);refine eK ?_;refine eQ rfl (HC.out _ _ _ _ Af) ?_;rintro _ a3 ⟨a4,⟨a5,⟨⟨⟩,⟨a6,⟨ao,a7⟩⟩⟩⟩⟩;revert Z F X O f r0 Y L;refine eY ao ?_;intro a8 Z F X O f r0 Y L;refine Au (KX Ab C9 rfl rfl rfl rfl BD rfl rfl Af Af ac Af Aa Aa) rfl ?_ aFh;rintro _ a9 ⟨al,⟨am,⟨rfl,⟨ag,⟨M,ah⟩⟩⟩⟩⟩;have bb:=M.size;have Z:=lW Z M (fun h=>by have:=N _ h;omega);have F:=mo F M (fun b hb h=>by have:=N _ h;omega);have X:=mt X M (fun k hk=>by have:=N _ hk;omega);have O:=lW O M (fun h=>by have:=N _ h;omega);have f:=PDsC.fr f M (fun b hb h=>by have:=N _ h;omega);have Y:=mo Y M (fun b hb h=>by have:=N _ h;omega);clear L M;refine C1 Pa (Ah (Ad (Ai (Ag (C1 V7 (C1 Mv (Ah ?_)))))));rotate_left
     rw [<-aw] at ag ah ⊢;exact Ay (j+1,al,am) sB ⟨by simp only;omega,ag,ah,O,f,F,X⟩ (by simp only;omega)
   . obtain rfl:j=g.procs.length:=by omega
     rw [kE] at L ac au N;refine CW.sub (m:=[(1,.pointer (some ⟨b1,0,none⟩)),(3,.slice ra (Ea g.procs).length rc),(16,.slice pa g.procs.length pc),(17,.int .i64 g.procs.length),(18,.int .i64 g.procs.length)]) ?_ (Am rfl (Bj rfl (by simp only [kE]) (Am rfl (Am rfl (Am rfl BB)))));have ak:=Ix g.main.walk;rw [I7] at ak;rw [kE] at av;generalize C3 g.main.walk=ys at *;generalize hE:Ea g.procs=E at *;rw [hE] at *;refine eK ?_;refine eQ rfl (HM.out _ _ _ _ Af) ?_;rintro _ b0 ⟨b2,⟨b4,⟨⟨⟩,⟨b5,⟨az,b6⟩⟩⟩⟩⟩;revert O f F X L;refine eY az ?_;intro b7 O f F X L;refine Au (KX Ab C9 rfl rfl rfl rfl BD rfl rfl Af Af ac Af Aa Aa) rfl ?_ aFh;rintro _ bd ⟨be,⟨bf,⟨rfl,⟨ai,⟨U,ap⟩⟩⟩⟩⟩;have bg:=U.size;have O:=lW O U (fun h=>by have:=N _ h;omega);have f:=PDsC.fr f U (fun b hb h=>by have:=N _ h;omega);have F:=mo F U (fun b hb h=>by have:=N _ h;omega);have X:=mt X U (fun k hk=>by have:=N _ hk;omega);clear L U;refine eK ?_;refine xR ?_;exact ⟨_,_,rfl,OwnQ.below ai (fun k hk=>by have:=ai.ge hk;omega),X,ap⟩
 . have he:g.errs=[]:=At hf;rw [he];refine Ae func50 ntmps50 rfl rfl ?_;refine cS (eB [_,_,_,_,_,_] ?_);intro b8 b9 ad a0 ca cb;revert f V X;refine eE a0 ?_;intro f V X;refine eK ?_;refine cC rfl (HV.out _ _ _ _ _ _ _ _ Af) ?_;rintro _ cc ⟨⟨⟩,a1⟩;revert ad f V X;refine eY a1 ?_;intro bh ad f V X;refine eK ?_;refine eQ rfl (HS.out _ _ _ _ _ _ _ _ Af Af an) ?_;rintro _ bi ⟨bj,⟨bk,⟨⟨⟩,aq⟩⟩⟩;revert ad f V X;refine eY aq ?_;intro bm ad f V X;refine eK ?_;refine xR ?_;all_goals exact ⟨none,0,rfl,OwnQ.nil,X,fun _=>⟨rfl,rfl⟩⟩
def PG.acc (g:PG):Prop:=g.ok=true/\g.flt=0/\g.errs=[]
def iZ (g:PG) (F:g.wf) (S:nP) (va:oA) (vc:Nat) (O:oA) (pc:Nat) (ma:oA) (mc:Nat) (w:wD) (E:g.sits S w va O ma) (f:PDsC S w g.procs O) (U:g.vars.length<=vc) :
 Calls prog 25 #[.agg (g.cells va vc O pc ma mc).toArray] w fun e w'=> ∃q,e = .returned (.bool q)/\(q=true↔g.acc)/\Ext w w':=by
 have X:=lN w;have E:=E.ltA;have f:=f.ltA;cases hok:g.ok
 . have V:=kh (KW F hok);have hn : ¬g.acc:=fun h=>by rw [h.1] at hok;cases hok
   clear F hok f;refine Ae func25 ntmps25 rfl rfl ?_;refine cS (eB [_,_,_,_,_,_] ?_);intro b1 w2 h4 x5 p6 z7;revert X E;refine eE x5 ?_;intro X E;refine eK ?_;refine cC rfl (V.out _ _ _ _ _ _ _ _ Af) ?_;rintro _ w9 ⟨⟨⟩,x8⟩;revert h4 X E;refine eY x8 ?_;intro be h4 X E;refine eK ?_;refine xR ?_;exact ⟨_,rfl,⟨(fun h=>nomatch h),fun h=>absurd h hn⟩,X⟩
 have V:=kh (KW F hok);have HC:=kh (fun w1 h1 h2=>SF g F hok (· < w.heap.size) va vc O pc ma mc w1 h1 h2 U);have HE:=kh (fun w1 h1 h2=>YX g F hok (· < w.heap.size) va vc O pc ma mc w1 h1 h2 U);by_cases Y:g.flt=0
 . rw [Y] at HC;have hq:g.acc↔g.errs.length=0:=⟨fun h=>by rw [h.2.2];rfl,fun h=>⟨hok,Y,List.eq_nil_of_length_eq_zero h⟩⟩;rw [hq];generalize g.errs=xs at *;clear F hok Y hq;by_cases hx:xs.length=0
   . refine Ae func25 ntmps25 rfl rfl ?_;refine cS (eB [_,_,_,_,_,_] ?_);intro bf bg L ae bh bi;revert X E f;refine eE ae ?_;intro X E f;refine eK ?_;refine cC rfl (V.out _ _ _ _ _ _ _ _ Af) ?_;rintro _ bj ⟨⟨⟩,af⟩;revert L X E f;refine eY af ?_;intro ak L X E f;refine eK ?_;refine eQ rfl (HC.out _ Af Af) ?_;rintro _ al ⟨am,⟨an,⟨⟨⟩,Z⟩⟩⟩;revert L X E f;refine eY Z ?_;intro ao L X E f;refine eK ?_;refine eQ rfl (HE.out _ Af Af) ?_;rintro _ ap ⟨aq,⟨ar,⟨⟨⟩,⟨au,⟨aa,av⟩⟩⟩⟩⟩;revert L X E f;refine eY aa ?_;intro aw L X E f;refine eK ?_;refine xR ?_;exact ⟨_,rfl,by simp [hx],X⟩
   . refine Ae func25 ntmps25 rfl rfl ?_;refine cS (eB [_,_,_,_,_,_] ?_);intro bk bm M ag bn bo;revert X E f;refine eE ag ?_;intro X E f;refine eK ?_;refine cC rfl (V.out _ _ _ _ _ _ _ _ Af) ?_;rintro _ bp ⟨⟨⟩,ah⟩;revert M X E f;refine eY ah ?_;intro ax M X E f;refine eK ?_;refine eQ rfl (HC.out _ Af Af) ?_;rintro _ ay ⟨az,⟨a0,⟨⟨⟩,ab⟩⟩⟩;revert M X E f;refine eY ab ?_;intro a1 M X E f;refine eK ?_;refine eQ rfl (HE.out _ Af Af) ?_;rintro _ a2 ⟨a3,⟨a4,⟨⟨⟩,⟨a5,⟨ac,a6⟩⟩⟩⟩⟩;revert M X E f;refine eY ac ?_;intro a7 M X E f;refine eK ?_;refine xR ?_;exact ⟨_,rfl,by simp [hx],X⟩
 . have hn : ¬g.acc:=fun h=>Y h.2.1
   have a8:0<g.flt:=Nat.pos_of_ne_zero Y;generalize g.flt=nf at *;clear F hok;refine Ae func25 ntmps25 rfl rfl ?_;refine cS (eB [_,_,_,_,_,_] ?_);intro bq br N ai bs bt;revert X E f;refine eE ai ?_;intro X E f;refine eK ?_;refine cC rfl (V.out _ _ _ _ _ _ _ _ Af) ?_;rintro _ bu ⟨⟨⟩,aj⟩;revert N X E f;refine eY aj ?_;intro a9 N X E f;refine eK ?_;refine eQ rfl (HC.out _ Af Af) ?_;rintro _ ba ⟨bb,⟨bc,⟨⟨⟩,ad⟩⟩⟩;revert N X E f;refine eY ad ?_;intro bd N X E f;refine eK ?_;refine xR ?_;exact ⟨_,rfl,⟨(fun h=>nomatch h),fun h=>absurd h hn⟩,X⟩
structure EX where
 name:lB
 points:Int
 fuel:Int
 box:BoxV
 g:PG
def EX.cells (e:EX) (va:oA) (vc:Nat) (pa:oA) (pc:Nat) (ma:oA) (mc:Nat):lV:=
 [str e.name,.int .i64 e.points,.int .i64 e.fuel,.int .i64 e.box.v,.int .i64 e.box.l,.int .i64 e.box.i,.slice va e.g.vars.length vc,.slice pa e.g.procs.length pc,.int .u8 e.g.main.kind,.int .i64 e.g.main.num,str e.g.main.name,.slice ma e.g.main.kids.length mc]
def PG.pinv (g:PG):PG:=⟨g.vars,g.procs,g.main.inv false⟩
def EX.num (e:EX):Prop:=AS e.name=true/\(1<=e.points/\e.points<=1000)/\0<=e.fuel/\e.fuel<=1000000
instance (e:EX):Decidable e.num:=by unfold EX.num;infer_instance
instance (g:PG):Decidable g.acc:=by unfold PG.acc;infer_instance
def EX.valid (e:EX):Prop:=e.num/\e.g.acc/\e.g.pinv.acc/\(G9 e.g.vars e.box).2=0/\(G9 e.g.vars e.box).1<=65536
instance (e:EX):Decidable e.valid:=by unfold EX.valid;infer_instance
def PG.pinv_eq (g:PG):g.pinv=g.inv id false:=(PG.inv_id false g).symm
def PG.pinv_wf {g:PG} (h:g.wf) (f:g.ok=true):g.pinv.wf:=by
 rw [PG.pinv_eq];exact WW false h f (fun p E=>(h.procs p E).body)
def bL {P:Program} {n:Nat} {l:Sl} {S:wD->Prop} {ty t t':TypeId} {x y:Operand} {a b m:Int} (h:ev l x=some (.int .i64 a)) (E:ev l y=some (.int .i64 b)) (F:min a b=m):BA P n l S (.call ⟨.builtin .min,#[x,y],#[t,t']⟩) ty (.int .i64 m):=by
 unfold BA;intro c w L pos after g f _;have e:(if b<a then b else a)=m:=by rw [<-F];split<;>omega
 simp [execOp,resolve,invoke,builtin,Builtin.min_,Builtin.min2,f.ev h,f.ev E,e]
def PJ (x y:Int) (f:1<=x/\x<=1099511627777) (M:1<=y/\y<=1099511627777) (w:wD) :
 Calls prog 54 #[.int .i64 x,.int .i64 y] w fun e w'=>e = .returned (.int .i64 (GZ x y))/\Ext w w':=by
 have X:=lN w;have h1:(1099511627776:Int).tdiv y=1099511627776/y:=Int.tdiv_eq_ediv_of_nonneg Aa;have U:0<=(1099511627776:Int)/y:=Int.ediv_nonneg Aa Aa;have V:(1099511627776:Int)/y<=1099511627776:=Int.ediv_le_self _ Aa;have h:IntKind.wrap .i64 ((1099511627776:Int).tdiv y)=1099511627776/y:=by rw [h1];exact kN _ Aa
 have N:y≠0:=by omega
 by_cases E:1099511627776/y<x
 . rw [show GZ x y=1099511627777 by unfold GZ;rw [AH E]];generalize (1099511627776:Int)/y=q at *;refine Ae func54 ntmps54 rfl rfl ?_;refine eK ?_;refine C1 (Qv rfl rfl Af h) ?_;refine eK ?_;refine xR ?_;exact ⟨rfl,X⟩
 . have F:=QF f.1 f.2 M.1;have e:GZ x y=x*y:=by unfold GZ;rw [At E]
   rw [e] at F ⊢;obtain ⟨m,L⟩ : ∃m,x*y=m:=⟨_,rfl⟩;rw [L] at F ⊢;have O:IntKind.wrap .i64 (x*y)=m:=by rw [L];exact kN _ Aa
   generalize (1099511627776:Int)/y=q at *;clear h1 e;refine Ae func54 ntmps54 rfl rfl ?_;refine eK ?_;refine C1 (Qv rfl rfl Af h) ?_;refine eK ?_;refine C1 (Eo rfl rfl O) ?_;refine eK ?_;refine xR ?_;exact ⟨rfl,X⟩
def SH (p:Int×Int) (y:Int) (hp:0<=p.1/\p.1<=1000) (hq:0<=p.2/\p.2<=1000) (O:1<=y/\y<=1099511627777) (w:wD) :
 Calls prog 55 #[.agg #[.int .i64 p.1,.int .i64 p.2],.int .i64 y] w fun e w'=>e = .returned (.int .i64 (Nk p y))/\Ext w w':=by
 have X:=lN w;obtain ⟨f,aa⟩:=p;simp only at hp hq;unfold Nk;obtain ⟨N,rfl⟩:=Int.eq_ofNat_of_zero_le hq.1;rw [show ((N:Int)+1).toNat=N+1 by omega];have HS:=kh (fun n=>QH f y O.1 n);have HP:=kh (fun n=>QG f y O.1 n);have HC:=kh (fun x h w1=>PJ x y h O w1);have U:=kh (fun n=>show Nj f y (n+1)=(if f<=n then min ((Nj f y n).1+(Nj f y n).2) 1099511627777 else (Nj f y n).1,GZ (Nj f y n).2 y) from rfl);refine Ae func55 ntmps55 rfl rfl ?_;refine cS (GW [_,_] rfl rfl rfl ?_);intro b1 w2 M;have E:=M.blk;dsimp only at E;have x5:=M.ext;have p6:=M.pos;have z7:=M.size;have X:=X.ext x5;refine C1 Pa (cN (C1 Pa (C1 Pa (cT (Al (cS (C1 Pf (C1 (Pl E) (C1 V7 (C1 Mv (cT ?_)))))))))));refine Ax ?_;refine AM (ι:=Nat) (fun j=>[(1,.int .i64 y),(2,.pointer (some ⟨b1,0,none⟩)),(5,.int .i64 (Nj f y j).1),(6,.int .i64 (Nj f y j).2),(10,.int .i64 ((N:Int)+1)),(11,.int .i64 j)])
  (fun j w'=>j<=N+1/\Blk w' b1 [.int .i64 f,.int .i64 N]/\Ext w w') (fun j=>N+1-j) 0 sB ⟨kC _,E,X⟩ ?_
 clear E X;rintro j w1 ⟨hj,E,X⟩;by_cases ab:j<N+1
 . have hs:=HS.out j;have F:=HP.out j;have L:=U.out j;have V:=kh (HC.out _ F);generalize Nj f y j=r at *;obtain ⟨r1,r2⟩:=r;simp only at hs F L V;clear U;by_cases hl:f<=(j:Int)
   . rw [AH hl] at L;refine eK ?_;refine C1 (bL rfl rfl rfl) ?_;refine eK ?_;refine cC rfl (V.out _) ?_;rintro _ ac ⟨⟨⟩,Y⟩;revert E X;refine eY Y ?_;intro ad E X;refine C1 Pa (Ah (Ad (Ai (Ag (C1 V7 (C1 Mv (Ah ?_)))))));exact Ay (j+1) (by rw [L];(refine Am rfl ?_;refine Am rfl ?_;refine Am rfl ?_;refine Am rfl ?_;refine Am rfl ?_;refine Am rfl ?_;exact BB)) ⟨Aa,Af,X⟩ Aa
   . rw [At hl] at L;refine eK ?_;refine cC rfl (V.out _) ?_;rintro _ ae ⟨⟨⟩,Z⟩;revert E X;refine eY Z ?_;intro af E X;refine C1 Pa (Ah (Ad (Ai (Ag (C1 V7 (C1 Mv (Ah ?_)))))));exact Ay (j+1) (by rw [L];(refine Am rfl ?_;refine Am rfl ?_;refine Am rfl ?_;refine Am rfl ?_;refine Am rfl ?_;refine Am rfl ?_;exact BB)) ⟨Aa,Af,X⟩ Aa
 . obtain rfl:j=N+1:=by omega
   clear HS HP U HC;generalize (Nj f y (N+1)).1=s at *;refine eK ?_;refine xR ?_;exact ⟨rfl,X⟩
def MO:Shape (List Int) where
 sz:=1
 rep:=fun w S xs cs=> ∃a c,cs=[.slice a xs.length c]/\Rows S w (ints xs) a
 len:=fun ⟨_,_,h,_⟩=>by rw [h];rfl
 one:=fun ⟨_,_,h,_⟩=>by rw [h];rfl
 mono:=fun ⟨a,c,h,h2⟩ hS hc=>⟨a,c,h,h2.move hS (fun b o v hb h=>hc b o v hb h)⟩
 lt:=fun ⟨a,c,h,h2⟩=>⟨a,c,h,h2.lt2⟩
def OwnQ.ics {w:wD} {R:nP} {B e:Nat} {a:oA} {len cap:Nat} {xs:List (List Int)} {S:nP} (h:OwnQ MO w R B e (.slice a len cap) xs) (M : ∀b,R b->S b) (N : ∀b,B<=b->b<w.heap.size->S b):ICs S w xs a:=by
 by_cases E:xs=[]
 . exact kj E
 . obtain ⟨g,F,L,O,U,f⟩:=h.rows E;simp only [kT] at L;obtain ⟨rfl,-,-⟩:=L;refine kp ⟨g,0,rfl,N g O U,fun i x V=>?_⟩;obtain ⟨cs,X,a,c,rfl,Y⟩:=f i x V;exact ⟨a,c,by simpa [MO] using X,Y.wide M⟩
def fZ {S:nP} {w:wD} {xs:List Int} {a:oA} (h:Rows S w (ints xs) a):IntsAt w xs a:=h.wide fun _ _=>trivial
def OwnI.rowsI {w:wD} {B:Nat} {a:oA} {n c:Nat} {xs:List Int} {S:nP} (h:OwnI w B (.slice a n c) xs) (F : ∀k,(lm a n c).ownBlock=some k->S k):Rows S w (ints xs) a:=by
 rcases h.open with ⟨h1,f⟩|⟨g,cap,M,h1,f,L,N,O⟩
 . subst f;exact kj rfl
 . simp only [kT] at h1;obtain ⟨rfl,-,-⟩:=h1;refine kp ⟨g,0,rfl,F g rfl,fun i v E=>?_⟩;exact (L.blk.row) i v (by rw [lI];exact E;exact (List.getElem?_eq_some_iff.1 E).1)
def CloneS (xs:List Int) (w:wD):Ending->wD->Prop:=fun e w'=> ∃a c,e = .returned (.slice a xs.length c)/\Rows (fun b=>w.heap.size<=b/\b<w'.heap.size) w' (ints xs) a/\Ext w w'
def CloneS.ret {xs:List Int} {w w':wD} {e:Ending} (h:CloneS xs w e w') : ∃v,e = .returned v:=by
 obtain ⟨_,_,h,-⟩:=h;exact ⟨_,h⟩
def YY (xs:List Int) (f:xs.length<=1000000) (S:nP) (a:oA) (c:Nat) (w:wD) (h:Rows S w (ints xs) a):Calls prog 88 #[.slice a xs.length c] w (CloneS xs w):=
 (Yi xs f a c w (fZ h)).mono fun _ _ ⟨a,c,h1,h2,h3,h4⟩=>⟨a,c,h1,h2.rowsI h3,h4⟩
def jO {α:Type} (c:α->Value) (S:nP) (w:wD) (l:List α) (a:oA):Prop:=Arr S 1 (fun w b o x=>Row w ⟨b,o,none⟩ [c x]) w l a
section
variable {α:Type} {c:α->Value} {S S' T:nP} {w w':wD} {l:List α} {a:oA}
def bM (h:jO c S w l a) (E:l≠[]) : ∃b o,a=some ⟨b,o,none⟩/\S b/\Row w ⟨b,o,none⟩ (l.map c):=by
 obtain ⟨b,o,h1,F,L⟩:=h.get (List.length_pos_iff.2 E);refine ⟨b,o,h1,F,fun i v f=>?_⟩;rw [List.getElem?_map,Option.map_eq_some_iff] at f;obtain ⟨x,M,rfl⟩:=f;have:=(L i x M).at0 rfl;rw [addr_addE,show o+i=o+i*1 by omega];exact this
where addr_addE {b o i:Nat}:(⟨b,o,none⟩:Addr).add i=⟨b,o+i,none⟩:=by unfold lA;by_cases N:i=0<;>simp [N]
end
def Fo {α:Type} (c:α->Value) (h1 : ∀x,mm (c x)=true):Shape α where
 sz:=1
 rep:=fun _ _ v cs=>cs=[c v]
 len:=fun h=>by rw [h];rfl
 one:=fun h=>by rw [h];simp [h1]
 mono:=fun h _ _=>h
 lt:=fun h=>h
def OwnQ.els {α:Type} {c:α->Value} {h1 : ∀x,mm (c x)=true} {w:wD} {R:nP} {B e:Nat} {a:oA} {len cap:Nat} {xs:List α} {S:nP} (h:OwnQ (Fo c h1) w R B e (.slice a len cap) xs) (M : ∀b,B<=b->b<w.heap.size->S b):jO c S w xs a:=by
 by_cases E:xs=[]
 . exact kj E
 . obtain ⟨g,F,L,N,O,f⟩:=h.rows E;simp only [kT] at L;obtain ⟨rfl,-,-⟩:=L;refine kp ⟨g,0,rfl,M g N O,fun i x U=>?_⟩;obtain ⟨cs,V,rfl⟩:=f i x U;simpa [Fo] using V
abbrev jC (i:Int):Value:=.int .i64 i
abbrev NL:Shape Int:=Fo jC (fun _=>rfl)
abbrev NM:Shape lB:=Fo str (fun _=>rfl)
def DK (vs:List VD):List (List Int):=vs.map fun v=>kV (EA v).toNat 0
def ArrS.blkJ {C D g:Nat} {w:wD} {xs:List Int} (h:ArrS NL C D w g xs):Blk w g (ints xs):=by
 obtain ⟨f,h1,M,F⟩:=h.ex;have e:f.flatten=ints xs:=by
  have:f=xs.map fun x=>[Value.int .i64 x]:=by
   apply List.ext_getElem? ;intro i;rw [List.getElem?_map];rcases kK i xs.length with E|E
   . have L:f[i]? = some f[i]:=kg Aa;have:=F i xs[i] f[i] (kg E) L;rw [L,kg E];exact congrArg some this
   . rw [kO E,kO Aa];rfl
  rw [this];unfold ints;clear this h1 M F h
  induction xs with
  | nil=>rfl
  | cons x xs N=>simp [N]
 rwa [e] at h1
def ArrS.rowsJ {C D g:Nat} {w:wD} {xs:List Int} (h:ArrS NL C D w g xs) {S:nP} (f:S g):Rows S w (ints xs) (some ⟨g,0,none⟩):=kp ⟨g,0,rfl,f,h.blkJ.row⟩
def NewSR (vs:List VD) (w:wD):Ending->wD->Prop:=fun e w'=> ∃a c ta tc,e = .returned (.tuple #[.agg #[.slice a vs.length c,.slice ta 0 tc,.slice none 0 0],.int .i64 0])/\ICs (fun b=>w.heap.size<=b/\b<w'.heap.size) w' (DK vs) a/\Ext w w'
def NewSR.ret {vs:List VD} {w:wD} {e:Ending} {w':wD} (h:NewSR vs w e w') : ∃v,e = .returned v:=by
 obtain ⟨_,_,_,_,h,-⟩:=h;exact ⟨_,h⟩
def bN (l:List VD) (N:l.length<=1000000) (M : ¬Fj l) (S:nP) (a:oA) (c:Nat) (w:wD) (f:VDs S w l a) :
 Calls prog 97 #[.slice a l.length c,.slice none 0 0] w fun e w'=>e = .returned (.tuple #[.agg #[.slice none 0 0,.slice none 0 0,.slice none 0 0],.int .i64 3])/\Ext w w':=by
 have X:=lN w;have O:Hid (∀E,VDs S E l a->Calls prog 141 #[.slice a l.length c] E fun e w'=>e = .returned (.bool false)/\Ext E w'):=kh fun E h=>(U9 l N S a c E h).mono fun e w' ⟨q,h1,h2,h3⟩=>⟨by rw [h1,show q=false by cases q with|false=>rfl|true=>exact absurd (h2.1 rfl) M],h3⟩
 clear M;refine Ae func97 ntmps97 rfl rfl ?_;refine cS (eA [_,_,_] ?_);intro b1 w2 F U p7 z8;revert f X;refine eE U ?_;intro f X;refine eK ?_;refine cC rfl (O.out _ Af) ?_;rintro _ V ⟨⟨⟩,Y⟩;revert F f X;refine eY Y ?_;intro Z F f X;refine eK ?_;refine C1 (xB [_,_,_]) (eS [_,_,_] F ?_);intro aa ab L ac;clear F f;have X:=X.fr L Aa;refine C1 Pa (cT (BO (AL ?_)));refine GG rfl Ab rfl rfl rfl Af rfl rfl ?_;exact ⟨rfl,X⟩
def bO (l:List VD) (hv:Fj l) (S:nP) (a:oA) (c:Nat) (w:wD) (L:VDs S w l a) :
 Calls prog 97 #[.slice a l.length c,.slice none 0 0] w (NewSR l w):=by
 have X:=lN w;replace L:VDs (· < w.heap.size) w l a:=L.lt2.wide fun _ h=>h.2
 have hl:l.length<=1000000:=by have:=hv.1;omega
 have HV:Hid (∀Z,VDs (· < w.heap.size) Z l a->Calls prog 141 #[.slice a l.length c] Z fun e w'=>e = .returned (.bool true)/\Ext Z w'):=kh fun Z h=>(U9 l hl (· < w.heap.size) a c Z h).mono fun e w' ⟨q,h1,h2,h3⟩=>⟨by rw [h1,h2.2 hv],h3⟩
 have HN:Hid (∀Z,Calls prog 88 #[.slice none 0 0] Z (CloneS [] Z)):=kh fun Z=>YY [] A6 (fun _=>True) none 0 Z (kj rfl)
 have hz:(DK l).length=l.length:=by simp [DK]
 refine Ae func97 ntmps97 rfl rfl ?_;refine cS (eA [_,_,_] ?_);intro b1 w2 U x6 p7 z8;revert X L;refine eE x6 ?_;intro X L;refine eK ?_;refine cC rfl (HV.out _ Af) ?_;rintro _ bw ⟨⟨⟩,x9⟩;revert U X L;refine eY x9 ?_;intro bx U X L;refine eK ?_;refine eQ rfl (HN.out _) ?_;rintro _ bz ⟨am,⟨an,⟨⟨⟩,⟨ai,az⟩⟩⟩⟩;revert U X L;refine eY az ?_;intro b0 U X L;refine C1 (xB [_,_,_]) (xA [_,_,_] ?_);intro ao b2 a0;refine eI [_,_,_] a0 ?_;intro ac F a1 b3 b4;revert ai U X L;refine eE a1 ?_;intro ai U X L;refine cT (Al (cS (C1 Mv (C1 Pz (C1 Mv (cT ?_))))));refine Ax ?_;refine AM (ι:=Nat) (fun j=>[(4,.pointer (some ⟨b1,0,none⟩)),(6,.pointer (some ⟨ao,0,none⟩)),(20,.slice a l.length c),(21,.int .i64 l.length),(22,.int .i64 j)])
  (fun j w'=> ∃ra rc,j<=l.length/\OwnQ MO w' (fun b=>ac.heap.size<=b) ac.heap.size 130 (.slice ra ((DK l).take j).length rc) ((DK l).take j)/\Blk w' ao [.slice ra ((DK l).take j).length rc,.slice am 0 an,.slice none 0 0]/\Blk w' b1 [.slice none 0 0,.slice none 0 0,.slice none 0 0]/\VDs (· < w.heap.size) w' l a/\Ext w w'/\ac.heap.size<=w'.heap.size)
  (fun j=>l.length-j) 0 sB ⟨none,0,kC _,OwnQ.nil,F,U,L,X,kv _⟩ ?_
 clear F U L X ai;rintro j w3 ⟨ra,rc,hj,f,F,U,L,X,b5⟩;have Y : ∀g',(lm ra ((DK l).take j).length rc).ownBlock=some g'->ac.heap.size<=g'/\g'<w3.heap.size:=fun g' h=>⟨f.ge h,f.lt h⟩
 have a2:((DK l).take j).length<=1000000:=by rw [kU];omega
 by_cases ap:j<l.length
 . have f:=f.ltR;obtain ⟨kb,ko,rfl,kS,hk⟩:=mq L Aa;have rx:=hk j _ (kg ap);have aq:=hv.2 _ (kq ap);have ar:0<=EA l[j]/\EA l[j]<=16:=by unfold EA;unfold MB at aq;split<;>omega
   obtain ⟨N,hN⟩:=Int.eq_ofNat_of_zero_le ar.1;have HX:Hid (∀Z,Calls prog 142 #[l[j].val] Z fun e w'=>e = .returned (.int .i64 (N:Int))/\Ext Z w'):=kh fun Z=>by rw [<-hN];exact aC l[j] Z
   have ad:(DK l).take j++[kV N 0]=(DK l).take (j+1):=by
    rw [ky Aa];congr 2;simp only [DK,List.getElem_map,hN,Int.toNat_natCast]
   clear hk aq;have a6:N<=16:=by omega
   clear ar hN;generalize l[j]=x at *;obtain ⟨xn,xk,xl⟩:=x;replace rx:Row w3 ⟨kb,ko+j*3,none⟩ [str xn,.int .u8 xk,.int .i64 xl]:=rx;unfold VD.val at HX;dsimp only at HX;generalize (DK l).take j=ys at *;refine eK ?_;refine xA [_,_,_] ?_;intro b6 b7 a3;refine eI [_,_,_] a3 ?_;intro au O a4 b8 b9;revert U X L rx F f;refine eE a4 ?_;intro U X L rx F f;refine cT (AE (fun wz=>Ext au wz) 6 (.pure 0 (.pure 1 (.pure 2 (.fork 3 (.fork 4 (.fork 5 .tail .none) .none) .none)))) mixed BD (Ak (Ac (Ac (Ak (Ac An))))) ?_);intro a5 ae _;have E:(fun wz=>Ext au wz) a5:=ae;simp only at E;have aj:=O;have a7:=U;have a8:=L;have a9:=rx;have ak:=F;have ay:=f;revert O U X L rx F f;refine eY ae ?_;intro ba O U X L rx F f;refine ⟨E,?_⟩;refine Tq rfl Pg (Tq rfl (Db ak) (Tq rfl (xL [_,_,_] (fun wz hz=>(l7 aj hz))) ?_));refine tC rfl rfl (HX.out _) ?_;rintro _ bb ⟨⟨⟩,av⟩;revert E O U X L rx F f;refine eY av ?_;intro bc E O U X L rx F f;refine ⟨E,?_⟩;refine A1 rfl (Lu (sh:=NL) (C:=0) (D:=0) (N:=N) (z:=0) Ab C9 rfl rfl rfl rfl BD rfl rfl Aa (fun _ _=>rfl)) rfl ?_ aFh A9;rintro _ bd ⟨be,⟨rfl,⟨V,⟨bf,⟨bg,af⟩⟩⟩⟩⟩;have bh:=af.size;revert E O U X L rx F f;refine eE af ?_;intro E O U X L rx F f;refine ⟨E,?_⟩;refine A1 rfl (xS [_]) rfl ?_ aFh A9;rintro _ bi ⟨bj,rfl,aa,bk⟩;have ab:=aa.blk;have aw:=aa.ext;have bm:=aa.pos;have bn:=aa.size;revert V E O U X L rx F f;refine eE aw ?_;intro V E O U X L rx F f;refine ⟨E,?_⟩;refine AI rfl (Eg (R:=fun b=>ac.heap.size<=b) (sh:=MO) (z:=kV N 0) Ab C9 rfl rfl rfl rfl BD rfl rfl rfl Af (fun _ h=>by exact h.1) (l8 Af) ⟨_,_,by rw [List.length_replicate],ArrS.rowsJ Af ⟨Aa,fun e=>by have:=Y _ e;omega⟩⟩ Aa Aa rfl ?_);rintro bo ax bp ag bq br M;have bs:=M.size;have ab:=lW ab M (fun e=>by have:=Y _ e;omega);have V:=ArrS.fr V M (fun k hk=>by have:=Y _ hk;omega);have O:=lW O M (fun e=>by have:=Y _ e;omega);have U:=lW U M (fun e=>by have:=Y _ e;omega);have X:=mt X M (fun k hk=>by have:=Y _ hk;omega);have L:=mv L M (fun b hb hT=>by have:=Y _ hT;(try dsimp only at hb);omega);clear rx;have F:=lW F M (fun e=>by have:=Y _ e;omega)
   clear f M;refine C1 Pg (eV [_] [_,_,_] F ?_);intro bt bu ah bv;have ag:=OwnQ.fr ag ah (fun k hk=>⟨fun h=>by (try dsimp only at hk h);omega,fun e=>by have:=OwnQ.ge Af e;(try dsimp only at hk);omega⟩);revert ab V O U X L;refine eF ah ?_;intro ab V O U X L;refine Ah (Ad (Ai (Ag (C1 V7 (C1 Mv (Ah ?_))))));exact Ay (j+1) sB ⟨some ⟨_,0,none⟩,_,Aa,by rw [<-ad];assumption,by rw [<-ad];assumption,U,L,X,Aa⟩ Aa
 . obtain rfl:j=l.length:=by omega
   have et:(DK l).take l.length=DK l:=by rw [<-hz,kE]
   rw [et] at f F;clear Y a2;refine eK ?_;refine eS [_,_,_] U ?_;intro ca cb al cc;revert L X;refine eF al ?_;intro L X;have f:=OwnQ.fr f al (fun k hk=>⟨fun h=>by (try dsimp only at hk h);omega,fun e=>by have:=OwnQ.ge Af e;(try dsimp only at hk);omega⟩);have F:=F.fr al Aa;refine C1 Pa (cT (BO ?_));refine GG rfl Ab rfl rfl rfl Af rfl rfl ?_;refine ⟨ra,rc,am,an,by rw [hz],?_,X⟩;exact f.ltR.ics (fun b h=>⟨Aa,Aa⟩) (fun b h1 h2=>⟨Aa,h2⟩)
section
variable {P:Program} {n:Nat} {l:Sl} {S:wD->Prop} {tab:Tab} {zt:E9} {ty t e sz:Nat} {sE:Sk}
def NN {x y z:Operand} {a b c z0 E z2:Value} (T:TabOk P tab) (Z:CU P zt) (F:AC tab t=some (.array 3 e,sz)) (L:AC tab e=some (sE,1)) (M:Dj zt t=some [z0,E,z2])
 (N:ev l x=some a) (O:ev l y=some b) (U:ev l z=some c) (ca:a.cells = #[a]) (V:b.cells = #[b]) (X:c.cells = #[c]):BA P n l S (.build t #[(0,x),(1,y),(2,z)]) ty (.agg #[a,b,c]):=by
 unfold BA;intro s w Y pos after g f _;have hu:P.underlying t=some (.array 3 e):=(T _ _ _ F).under;obtain ⟨i0,v0,k1,k2,k3⟩:=FT Z M;obtain ⟨ie,j1,j2⟩:=(T _ _ _ L).info;have h:v0.cells = #[z0,E,z2]:=k3;have hb:P.built t [(0,a),(1,b),(2,c)]=some #[a,b,c]:=by
  unfold Program.built;simp only [k1,hu,k2,j1];simp [Instr.fill,j2,ca,V,X,h]
 have:=run_build w t #[(0,a),(1,b),(2,c)] _ hb;simp only [execOp,kB];rw [show (#[(0,x),(1,y),(2,z)]:Array (Nat×Operand)).map (fun p=>match p with|(i,x)=>(i,s.eval x)) = #[(0,a),(1,b),(2,c)] by simp [f.ev N,f.ev O,f.ev U],this];rfl
def NO {k:IntKind} {i:Int} {m:Nat} {x y:Operand} {vs:lV} {v:Value} (T:TabOk P tab) (E:AC tab t=some (.array m e,sz)) (f:AC tab e=some (sE,1)) (F:sE.agg=false) (L:ev l x=some (.agg vs.toArray)) (M:ev l y=some (.int k i)) (N:0<=i) (h1:i<m) (O:vs[i.toNat]? = some v) :
 BA P n l S (.index t x y) ty v:=by
 unfold BA;intro s w U pos after g h _;have V:P.underlying t=some (.array m e):=(T _ _ _ E).under;have X:(Instr.index t (.agg vs.toArray) (.int k i)).run P w = .ok v w:=by
  simp only [Instr.index,asIntOf,kB,kJ,kn,AD V];simp only [N,h1,and_self,if_true,kB,Dv (T _ _ _ f),kn,part,En (T _ _ _ f),F];simp [O]
 simp [execOp,h.ev L,h.ev M,X]
end
def JD:Shape (Int×Int) where
 sz:=2
 rep:=fun _ _ p cs=>cs=[.int .i64 p.1,.int .i64 p.2]
 len:=fun h=>by rw [h];rfl
 one:=fun h=>by rw [h];rfl
 mono:=fun h _ _=>h
 lt:=fun h=>h
def je (w:wD) (b o:Nat) (p:Int×Int):Prop:=Row w ⟨b,o,none⟩ [.int .i64 p.1,.int .i64 p.2]
def Bds (w:wD) (l:List (Int×Int)) (a:oA):Prop:=Arr (fun _=>True) 2 je w l a
def Bds.ext {w w':wD} {l:List (Int×Int)} {a:oA} (h:Bds w l a) (x:Ext w w'):Bds w' l a:=h.mono aFh (fun _ _ _ _ _ h=>mf h x)
instance {w w':wD} {l:List (Int×Int)} {a:oA}:LfE w w' (Bds w l a) (Bds w' l a):=⟨fun x h=>Bk.Bds.ext h x⟩
def OwnQ.bds {w:wD} {R:nP} {B e:Nat} {a:oA} {len cap:Nat} {xs:List (Int×Int)} (h:OwnQ JD w R B e (.slice a len cap) xs):Bds w xs a:=by
 by_cases E:xs=[]
 . exact kj E
 . obtain ⟨g,F,L,O,U,f⟩:=h.rows E;simp only [kT] at L;obtain ⟨rfl,-,-⟩:=L;refine kp ⟨g,0,rfl,trivial,fun i x M=>?_⟩;obtain ⟨cs,N,rfl⟩:=f i x M;simpa [JD,je] using N
def LensR (l:List (Int×Int)) (w:wD):Ending->wD->Prop:=fun e w'=> ∃a c,e = .returned (.tuple #[.slice a l.length c,.bool true])/\Bds w' l a/\Ext w w'
def LensR.ret {l:List (Int×Int)} {w:wD} {e:Ending} {w':wD} (h:LensR l w e w') : ∃v,e = .returned v:=by
 obtain ⟨_,_,h,-⟩:=h;exact ⟨_,h⟩
def WZ (vs:List VD) (hl:vs.length<=1000000) (b:BoxV) (U : ¬(b.ok/\Fj vs)) (S:nP) (a:oA) (c:Nat) (w:wD) (F:VDs S w vs a) :
 Calls prog 53 #[.slice a vs.length c,.agg #[.int .i64 b.v,.int .i64 b.l,.int .i64 b.i]] w fun e w'=>e = .returned (.tuple #[.slice none 0 0,.bool false])/\Ext w w':=by
 have X:=lN w;obtain ⟨f,bl,E⟩:=b;simp only [BoxV.ok] at U;have HN:Hid (Fj vs \/ ∀N,VDs S N vs a->Calls prog 97 #[.slice a vs.length c,.slice none 0 0] N fun e w'=>e = .returned (.tuple #[.agg #[.slice none 0 0,.slice none 0 0,.slice none 0 0],.int .i64 3])/\Ext N w'):=
  kh (by by_cases h:Fj vs;exact kj h;exact kp fun N h1=>bN vs hl h S a c N h1)
 have M:(0<=f/\f<=1000)->(0<=bl/\bl<=1000)->(0<=E/\E<=1000) -> ¬Fj vs:=fun h1 h2 h3 h=>U ⟨⟨h1,h2,h3⟩,h⟩
 clear U;refine Ae func53 ntmps53 rfl rfl ?_;refine cS (GW [_,_,_] rfl rfl rfl ?_);intro b1 w2 O;have L:=O.blk;dsimp only at L;have x5:=O.ext;have p6:=O.pos;have z7:=O.size;revert F X;refine eE x5 ?_;intro F X;refine eK ?_;refine C1 (NN Ab C9 rfl rfl rfl rfl rfl rfl rfl rfl rfl) (C1 Mv (cT ?_));refine Ax ?_;refine AM (ι:=Nat) (fun j=>[(0,.slice a vs.length c),(3,.pointer (some ⟨b1,0,none⟩)),(4,.slice none 0 0),(5,.bool false),(19,.agg #[.int .i64 f,.int .i64 bl,.int .i64 E]),(20,.int .i64 j)])
  (fun j w'=>j<=3/\(0<j->0<=f/\f<=1000)/\(1<j->0<=bl/\bl<=1000)/\(2<j->0<=E/\E<=1000)/\Blk w' b1 [.int .i64 f,.int .i64 bl,.int .i64 E]/\VDs S w' vs a/\Ext w w') (fun j=>3-j) 0 sB ⟨Aa,Aa,Aa,Aa,L,F,X⟩ ?_
 clear L F X;rintro j N ⟨hj,o1,o2,o3,L,F,X⟩;by_cases ae:j<3
 . obtain ⟨x,hx,q1,q2,q3⟩ : ∃x,[Value.int .i64 f,.int .i64 bl,.int .i64 E][((j:Int)).toNat]? = some (.int .i64 x)/\(j=0->x=f)/\(j=1->x=bl)/\(j=2->x=E):=by
    rw [Int.toNat_natCast];rcases (show j=0\/j=1\/j=2 by omega) with rfl|rfl|rfl
    . exact ⟨f,rfl,fun _=>rfl,fun h=>by omega,fun h=>by omega⟩
    . exact ⟨bl,rfl,fun h=>by omega,fun _=>rfl,fun h=>by omega⟩
    . exact ⟨E,rfl,fun h=>by omega,fun h=>by omega,fun _=>rfl⟩
   focus
    refine eK ?_;refine C1 (NO (vs:=[.int .i64 f,.int .i64 bl,.int .i64 E]) Ab rfl rfl rfl rfl rfl Aa Aa hx) ?_;refine eK ?_;refine DG rfl rfl rfl (fun V=>?_) (fun V=>?_);refine eK ?_;refine xT ?_;rotate_left;refine eK ?_;refine AF rfl (fun Y=>?_) (fun Y=>?_);refine eK ?_;refine xT ?_;rotate_left;refine Av (Ad (Ai (Ag (C1 V7 (C1 Mv (Ah ?_))))));rotate_left
   . exact ⟨rfl,X⟩
   . exact ⟨rfl,X⟩
   . exact Ay (j+1) sB ⟨Aa,fun _=>by omega,fun _=>by omega,fun _=>by omega,Af,Af,X⟩ Aa
 . obtain rfl:j=3:=by omega
   refine eK ?_;refine cC rfl ((HN.out.resolve_left (M Aa Aa Aa)) _ Af) ?_;rintro _ af ⟨⟨⟩,Z⟩;revert L F X;refine eY Z ?_;intro ag L F X;refine eK ?_;refine xA [_,_,_] ?_;intro ah ai aa;refine eI [_,_,_] aa ?_;intro aj ak ab ac ad;revert L F X;refine eE ab ?_;intro L F X;refine eK ?_;refine xT ?_;exact ⟨rfl,X⟩
def W4 (vs:List VD) (b:BoxV) (Z:b.ok) (hv:Fj vs) (S:nP) (a:oA) (c:Nat) (w:wD) (L:VDs S w vs a) :
 Calls prog 53 #[.slice a vs.length c,.agg #[.int .i64 b.v,.int .i64 b.l,.int .i64 b.i]] w (LensR (Gx vs b) w):=by
 have X:=lN w;replace L:VDs (· < w.heap.size) w vs a:=L.lt2.wide fun _ h=>h.2
 have hl:vs.length<=1000000:=by have:=hv.1;omega
 have HN:=kh (fun w1 (h:VDs (· < w.heap.size) w1 vs a)=>bO vs hv (· < w.heap.size) a c w1 h);have HL:Hid (∀j (hj:j<vs.length),((EA vs[j]).toNat:Int)=EA vs[j]/\MC b vs[j]=if vs[j].kind=3 then (0,b.l) else (EA vs[j],EA vs[j])):=kh fun j hj=>⟨by
  have au:=hv.2 _ (kq hj);unfold MB at au;unfold EA;split<;>omega,rfl⟩
 have hz:(DK vs).length=vs.length:=by simp [DK]
 unfold Gx;have aa : ∀j (hj:j<vs.length),(vs.map (MC b)).take j++[MC b vs[j]]=(vs.map (MC b)).take (j+1):=fun j hj=>by
  rw [ky (by simpa using hj),List.getElem_map]
 have av:(vs.map (MC b)).length=vs.length:=by simp
 obtain ⟨⟨o1,o2⟩,⟨o3,o4⟩,o5,o6⟩:=Z;obtain ⟨bv,bl,bi⟩:=b;simp only at o1 o2 o3 o4 o5 o6 HL;generalize bo:vs.map (MC ⟨bv,bl,bi⟩)=ms at *;have HV:=kh hv;clear hv;refine Ae func53 ntmps53 rfl rfl ?_;refine cS (GW [_,_,_] rfl rfl rfl ?_);intro b1 w2 n3;have M:=n3.blk;dsimp only at M;have x5:=n3.ext;have p6:=n3.pos;have z7:=n3.size;revert X L;refine eE x5 ?_;intro X L;refine eK ?_;refine C1 (NN Ab C9 rfl rfl rfl rfl rfl rfl rfl rfl rfl) (C1 Mv (cT ?_));refine Ax ?_;refine AM (ι:=Nat) (fun j=>[(0,.slice a vs.length c),(3,.pointer (some ⟨b1,0,none⟩)),(4,.slice none 0 0),(5,.bool false),(19,.agg #[.int .i64 bv,.int .i64 bl,.int .i64 bi]),(20,.int .i64 j)])
  (fun j w'=>j<=3/\Blk w' b1 [.int .i64 bv,.int .i64 bl,.int .i64 bi]/\VDs (· < w.heap.size) w' vs a/\Ext w w') (fun j=>3-j) 0 sB ⟨Aa,M,L,X⟩ ?_
 clear M L X;rintro j w1 ⟨hj,M,L,X⟩;by_cases bp:j<3
 . obtain ⟨x,hx,q1,q2⟩ : ∃x,[Value.int .i64 bv,.int .i64 bl,.int .i64 bi][((j:Int)).toNat]? = some (.int .i64 x)/\0<=x/\x<=1000:=by
    rw [Int.toNat_natCast];rcases (show j=0\/j=1\/j=2 by omega) with rfl|rfl|rfl
    . exact ⟨bv,rfl,o1,o2⟩
    . exact ⟨bl,rfl,o3,o4⟩
    . exact ⟨bi,rfl,o5,o6⟩
   refine eK ?_;refine C1 (NO (vs:=[.int .i64 bv,.int .i64 bl,.int .i64 bi]) Ab rfl rfl rfl rfl rfl Aa Aa hx) (C1 Pa (cN (C1 Mv (C1 V3 (C1 Mv (LX (C1 Mv (LX (C1 V5 (C1 O2 (cT ?_)))))))))));refine E4 (Av (Ad (Ai (Ag (C1 V7 (C1 Mv (Ah ?_)))))));exact Ay (j+1) sB ⟨Aa,Af,Af,X⟩ Aa
 . obtain rfl:j=3:=by omega
   have bq:=M.lt;refine eK ?_;refine eQ rfl (HN.out _ Af) ?_;rintro _ br ⟨ai,⟨aw,⟨a2,⟨a3,⟨⟨⟩,⟨ac,ax⟩⟩⟩⟩⟩⟩;revert M L X;refine eY ax ?_;intro bs M L X;refine eK ?_;refine xA [_,_,_] ?_;intro bt a4 aj;refine eI [_,_,_] aj ?_;intro Y ag ak a5 a6;revert ac M L X;refine eE ak ?_;intro ac M L X;refine C1 Pa (cT (Al (cS (C1 Mv (C1 V2 (cT (Ij (Av (Ai (cS (C1 Pa ?_)))))))))));refine cT (Al (cS (C1 Pg (C1 (Pl ag) (C1 Pz (C1 Mv (cT ?_)))))));refine Ax ?_;refine AM (ι:=Nat×oA×Nat) (fun x=>[(0,.slice a vs.length c),(3,.pointer (some ⟨b1,0,none⟩)),(10,.slice x.2.1 (ms.take x.1).length x.2.2),(38,.slice ai vs.length aw),(39,.int .i64 vs.length),(40,.int .i64 x.1)])
    (fun x w'=>x.1<=vs.length/\OwnQ JD w' (fun _=>False) Y.heap.size 109 (.slice x.2.1 (ms.take x.1).length x.2.2) (ms.take x.1)/\Blk w' b1 [.int .i64 bv,.int .i64 bl,.int .i64 bi]/\ICs (· < Y.heap.size) w' (DK vs) ai/\VDs (· < w.heap.size) w' vs a/\Ext w w'/\Y.heap.size<=w'.heap.size)
    (fun x=>vs.length-x.1) (0,none,0) sB ⟨kC _,OwnQ.nil,M,ac.wide (fun b h=>by omega),L,X,kv _⟩ ?_
   clear M ac L X ag;rintro ⟨j,ra,rc⟩ w3 ⟨ay,f,M,E,L,X,bu⟩;simp only at ay f;have F : ∀g',(lm ra (ms.take j).length rc).ownBlock=some g'->Y.heap.size<=g'/\g'<w3.heap.size:=fun g' h=>⟨f.ge h,f.lt h⟩
   have bw:(ms.take j).length<=1000000:=by rw [kU];omega
   by_cases ab:j<vs.length
   . obtain ⟨kb,ko,rfl,kS,hk⟩:=mq L Aa;have rx:=hk j _ (kg ab);obtain ⟨db,bx,rfl,dS,hd⟩:=E.get (by intro e;rw [e] at hz;simp at hz;omega);obtain ⟨xa,xc,ry,-⟩:=hd j _ (kg (show j<(DK vs).length by omega));obtain ⟨f1,f2⟩:=HL.out j ab;have ah:((DK vs)[j]'(by omega)).length=(EA vs[j]).toNat:=by simp [DK]
     rw [ah] at ry;have hn:=aa j ab;rw [f2] at hn;clear hk hd ah f2 HL aa;rw [<-f1] at hn;clear f1;generalize (EA vs[j]).toNat=N at *;generalize vs[j]=x at *;obtain ⟨xn,xk,xl⟩:=x;replace rx:Row w3 ⟨kb,ko+j*3,none⟩ [str xn,.int .u8 xk,.int .i64 xl]:=rx;simp only at hn;by_cases al:xk=3
     . rw [AH al] at hn;generalize ms.take j=ys at *;refine eK ?_;refine C1 (Pw rx) ?_;refine eK ?_;refine C1 (xB [_,_]) ?_;refine Au (xS [_,_]) rfl ?_ aFh;rintro _ bz ⟨b0,rfl,ad,b2⟩;have am:=ad.blk;have az:=ad.ext;have b3:=ad.pos;have b4:=ad.size;revert M X L E ry rx f;refine eE az ?_;intro M X L E ry rx f;refine Eg (R:=fun _=>False) (sh:=JD) (z:=(0,bl)) Ab C9 rfl rfl rfl rfl BD rfl rfl rfl Af (fun _ h=>by exact h) (l8 Af) rfl Aa Aa rfl ?_;rintro b5 an a7 a8 a9 ba O;have bb:=O.size;have am:=lW am O (fun e=>by have:=F _ e;omega);have M:=lW M O (fun e=>by have:=F _ e;omega);have X:=mt X O (fun k hk=>by have:=F _ hk;omega);have L:=mv L O (fun b Z hT=>by have:=F _ hT;(try dsimp only at Z);omega);have E:=ICs.fr E O (fun b Z hT=>by have:=F _ hT;(try dsimp only at Z);omega);clear ry rx f O;refine C1 Pa (Ah (Ad (Ai (Ag (C1 V7 (C1 Mv (Ah ?_)))))));exact Ay (j+1,some ⟨_,0,none⟩,_) (by dsimp only;rw [<-hn];(refine Am rfl ?_;refine Am rfl ?_;refine Am rfl ?_;refine Am rfl ?_;refine Am rfl ?_;refine Am rfl ?_;exact BB)) ⟨by (try dsimp only);omega,by dsimp only;rw [<-hn];assumption,M,E,L,X,Aa⟩ (by (try dsimp only);omega)
     . rw [At al] at hn;generalize ms.take j=ys at *;refine eK ?_;refine C1 (Pw rx) ?_;refine eK ?_;refine C1 (xB [_,_]) ?_;refine Au (xS [_,_]) rfl ?_ aFh;rintro _ b6 ⟨b7,rfl,ae,b8⟩;have ao:=ae.blk;have a0:=ae.ext;have b9:=ae.pos;have ca:=ae.size;revert M X L E ry rx f;refine eE a0 ?_;intro M X L E ry rx f;refine Eg (R:=fun _=>False) (sh:=JD) (z:=((N:Int),(N:Int))) Ab C9 rfl rfl rfl rfl BD rfl rfl rfl Af (fun _ h=>by exact h) (l8 Af) rfl Aa Aa rfl ?_;rintro cb ap bc bd be bf U;have bg:=U.size;have ao:=lW ao U (fun e=>by have:=F _ e;omega);have M:=lW M U (fun e=>by have:=F _ e;omega);have X:=mt X U (fun k hk=>by have:=F _ hk;omega);have L:=mv L U (fun b Z hT=>by have:=F _ hT;(try dsimp only at Z);omega);have E:=ICs.fr E U (fun b Z hT=>by have:=F _ hT;(try dsimp only at Z);omega);clear ry rx f U;refine C1 Pa (Ah (Ad (Ai (Ag (C1 V7 (C1 Mv (Ah ?_)))))));exact Ay (j+1,some ⟨_,0,none⟩,_) (by dsimp only;rw [<-hn];(refine Am rfl ?_;refine Am rfl ?_;refine Am rfl ?_;refine Am rfl ?_;refine Am rfl ?_;refine Am rfl ?_;exact BB)) ⟨by (try dsimp only);omega,by dsimp only;rw [<-hn];assumption,M,E,L,X,Aa⟩ (by (try dsimp only);omega)
   . obtain rfl:j=vs.length:=by omega
     rw [show ms.take vs.length=ms by rw [<-av,kE]] at *;refine eK ?_;refine C1 (xB [_,_]) ?_;refine Au (xS [_,_]) rfl ?_ aFh;rintro _ cc ⟨cd,rfl,af,ce⟩;have aq:=af.blk;have a1:=af.ext;have cf:=af.pos;have cg:=af.size;revert M E L X f;refine eE a1 ?_;intro M E L X f;refine Eg (R:=fun _=>False) (sh:=JD) (z:=(0,bi)) Ab C9 rfl rfl rfl rfl BD rfl rfl rfl Af (fun _ h=>by exact h) (l8 Af) rfl Aa Aa rfl ?_;rintro ch ar bh bj bk bm V;have bn:=V.size;have aq:=lW aq V (fun e=>by have:=F _ e;omega);have M:=lW M V (fun e=>by have:=F _ e;omega);have E:=ICs.fr E V (fun b Z hT=>by have:=F _ hT;(try dsimp only at Z);omega);have L:=mv L V (fun b Z hT=>by have:=F _ hT;(try dsimp only at Z);omega);have X:=mt X V (fun k hk=>by have:=F _ hk;omega);clear f V;refine eK ?_;refine xT ?_;exact ⟨_,_,rfl,OwnQ.bds Af,X⟩
def SI (l:List (Int×Int)) (y:Int) (j:Nat) (h:j<l.length):Ex (l.take (j+1)) y=GZ (Ex (l.take j) y) (Nk l[j] y):=by
 unfold Ex;rw [ky h,List.foldl_append];rfl
def bQ (vs:List VD) (hl:vs.length<=1000000) (b:BoxV) (S:nP) (a:oA) (c:Nat) (w:wD) (O:VDs S w vs a) :
 Calls prog 27 #[.slice a vs.length c,.agg #[.int .i64 b.v,.int .i64 b.l,.int .i64 b.i]] w fun e w'=>e = .returned (.tuple #[.int .i64 (G9 vs b).1,.int .i64 (G9 vs b).2])/\Ext w w':=by
 have X:=lN w;by_cases N:b.ok/\Fj vs
 . have HL:=kh (fun Y h=>W4 vs b N.1 N.2 S a c Y h);have hb:=aD N.1 N.2;have al:=Wv vs b;have hy:1<=2*b.v+1/\2*b.v+1<=2001:=by have:=N.1.1;omega
   have Z : ∀j,1<=Ex ((Gx vs b).take j) (2*b.v+1)/\Ex ((Gx vs b).take j) (2*b.v+1)<=1099511627777:=fun j=>
    Ph _ 1 _ hy.1 (fun p hp=>by have:=hb p (List.mem_of_mem_take hp);omega) Aa Aa
   have HS:=kh (fun j h=>SI (Gx vs b) (2*b.v+1) j h);unfold G9;rw [AH N];clear N;obtain ⟨E,bl,bi⟩:=b;simp only at hy Z HS HL ⊢;have hE:Ex (Gx vs ⟨E,bl,bi⟩) (2*E+1)=Ex ((Gx vs ⟨E,bl,bi⟩).take (Gx vs ⟨E,bl,bi⟩).length) (2*E+1):=by rw [kE]
   generalize Gx vs ⟨E,bl,bi⟩=F at *;have HB:=kh hb;have H1:=kh Z;clear hb Z;refine Ae func27 ntmps27 rfl rfl ?_;refine cS (eB [_,_,_] ?_);intro b1 w2 L x5 p6 z7;revert O X;refine eE x5 ?_;intro O X;refine eK ?_;refine eQ rfl (HL.out _ Af) ?_;rintro _ ar ⟨a8,⟨c9,⟨⟨⟩,⟨f,ae⟩⟩⟩⟩;revert L O X;refine eY ae ?_;intro au L O X;refine C1 Mv (C1 Px (C1 Px (C1 Pa (C1 Pa (cT (Al (cS (C1 Mv (C1 Pt (cT (CT rfl ?_)))))))))));refine Av (Ai (cS (C1 Pa (cT (Al (cS (C1 Mv (C1 Pz (C1 Mv (cT ?_))))))))));have hm:IntKind.wrap .i64 (2*E)=2*E:=kN _ Aa;have av:=L.lt;refine Ax ?_;refine AM (ι:=Nat) (fun j=>[(3,.pointer (some ⟨b1,0,none⟩)),(8,.int .i64 (Ex (F.take j) (2*E+1))),(19,.slice a8 F.length c9),(20,.int .i64 F.length),(21,.int .i64 j)])
    (fun j w'=>j<=F.length/\Blk w' b1 [.int .i64 E,.int .i64 bl,.int .i64 bi]/\Bds w' F a8/\Ext w w') (fun j=>F.length-j) 0 sB ⟨kC _,L,f,X⟩ ?_
   clear L f X O;rintro j w3 ⟨hj,L,f,X⟩;have h1:=H1.out j;by_cases aa:j<F.length
   . obtain ⟨kb,ko,rfl,-,hk⟩:=mq f Aa;have V:=hk j _ (kg aa);have hp:=HB.out _ (kq aa);have hq:=HS.out j aa;have af:=Yj hy.1 hp.1 hp.2.1;have HC:=kh (fun Y=>SH F[j] (2*E+1) Aa Aa Aa Y);have HP:=kh (fun Y=>PJ (Ex (F.take j) (2*E+1)) (Nk F[j] (2*E+1)) h1 af Y);clear hk;generalize Nk F[j] (2*E+1)=q at *;generalize Ex (F.take j) (2*E+1)=s at *;generalize F[j]=p at *;obtain ⟨p1,p2⟩:=p;replace V:Row w3 ⟨kb,ko+j*2,none⟩ [.int .i64 p1,.int .i64 p2]:=V;simp only at hp HC;refine eK ?_;refine xA [_,_] ?_;intro aw ax ag;refine eI [_,_] ag ?_;intro ay M ah az a0;revert L X f V;refine eE ah ?_;intro L X f V;refine eK ?_;refine BG [_,_] Ab rfl rfl rfl M rfl rfl rfl ?_;refine eK ?_;refine C1 (Eo rfl rfl hm) (C1 V7 (cC rfl (HC.out _) ?_));rintro _ am ⟨⟨⟩,ai⟩;revert M L X f V;refine eY ai ?_;intro an M L X f V;refine cC rfl (HP.out _) ?_;rintro _ ao ⟨⟨⟩,ac⟩;revert M L X f V;refine eY ac ?_;intro ap M L X f V;refine C1 Pa (Ah (Ad (Ai (Ag (C1 V7 (C1 Mv (Ah ?_)))))));exact Ay (j+1) (by rw [hq];(refine Am rfl ?_;refine Am rfl ?_;refine Am rfl ?_;refine Am rfl ?_;refine Am rfl ?_;exact BB)) ⟨Aa,Af,Af,X⟩ Aa
   . obtain rfl:j=F.length:=by omega
     rw [<-hE] at *;generalize Ex F (2*E+1)=s at *;by_cases ad:1099511627776<s
     . rw [AH ad];refine eK ?_;refine xT ?_;exact ⟨rfl,X⟩
     . rw [At ad];refine eK ?_;refine xT ?_;exact ⟨rfl,X⟩
 . have HL:=kh (fun Y h=>WZ vs hl b N S a c Y h);rw [show G9 vs b=(0,1) by unfold G9;rw [At N]];clear N;obtain ⟨E,bl,bi⟩:=b;refine Ae func27 ntmps27 rfl rfl ?_;refine cS (GW [_,_,_] rfl rfl rfl ?_);intro a1 a2 U;have ab:=U.blk;dsimp only at ab;have aj:=U.ext;have a3:=U.pos;have a4:=U.size;revert O X;refine eE aj ?_;intro O X;refine eK ?_;refine cC rfl (HL.out _ Af) ?_;rintro _ a5 ⟨⟨⟩,ak⟩;revert ab O X;refine eY ak ?_;intro aq ab O X;refine eK ?_;refine xT ?_;exact ⟨rfl,X⟩
structure EX.wf (e:EX):Prop where
 name:e.name.length<=9223372036854775807
 g:e.g.wf
 few:e.g.vars.length<=1000000
structure EX.sits (S:nP) (w:wD) (e:EX) (va pa ma:oA) (vc:Nat):Prop where
 g:e.g.sits S w va pa ma
 p:PDsC S w e.g.procs pa
 room:e.g.vars.length<=vc
def EX.sits.ext {S:nP} {w w':wD} {e:EX} {f E F:oA} {L:Nat} (h:e.sits S w f E F L) (x:Ext w w'):e.sits S w' f E F L:=⟨h.g.ext x,h.p.ext x,h.room⟩
instance {S:nP} {w w':wD} {e:EX} {f E F:oA} {L:Nat}:LfE w w' (e.sits S w f E F L) (e.sits S w' f E F L):=⟨fun x h=>Bk.EX.sits.ext h x⟩
def EX.sits.fr {S T:nP} {w w':wD} {e:EX} {f E F:oA} {L:Nat} (h:e.sits S w f E F L) (x:Fr T w w') (M : ∀b,S b -> ¬T b):e.sits S w' f E F L:=⟨h.g.fr x M,h.p.fr x M,h.room⟩
instance {S T:nP} {w w':wD} {e:EX} {f E F:oA} {L:Nat}:LfF T w w' (e.sits S w f E F L) (∀b,S b -> ¬T b) (e.sits S w' f E F L):=⟨fun x s h=>Bk.EX.sits.fr h x s⟩
def EX.sits.ltA {S:nP} {w:wD} {e:EX} {f E F:oA} {L:Nat} (h:e.sits S w f E F L):e.sits (· < w.heap.size) w f E F L:=⟨h.g.ltA,h.p.ltA,h.room⟩
def eH {g:PG} (E:g.wf) (S:nP) (F:oA) (L:Nat) (f:oA) (U:Nat) (M:oA) (V:Nat) (w:wD) (X:g.sits S w F f M) (N:PDsC S w g.procs f) (O:g.vars.length<=L) :
 Calls prog 25 #[.agg (g.cells F L f U M V).toArray] w fun e w'=>e = .returned (.bool (decide g.acc))/\Ext w w':=
 (iZ g E S F L f U M V w X N O).mono fun e w' ⟨q,h1,h2,h3⟩=>⟨by rw [h1];congr 2;cases q;exact (decide_eq_false (fun h=>by cases h2.2 h)).symm;exact (decide_eq_true (h2.1 rfl)).symm,h3⟩
def LB (e:EX) (hw:e.wf) (S:nP) (va:oA) (vc:Nat) (pa:oA) (pc:Nat) (ma:oA) (mc:Nat) (w:wD) (hs:e.sits S w va pa ma vc) :
 Calls prog 12 #[.agg (e.cells va vc pa pc ma mc).toArray] w fun r w'=>r = .returned (.bool (decide e.valid))/\Ext w w':=by
 have X:=lN w;obtain ⟨aa,U,Y⟩:=hw;obtain ⟨L,M,ab⟩:=hs.ltA;clear hs;have HN:=kh (fun Z=>Ip e.name Z aa);have HC:=kh (fun Z h1 V=>eH U (· < w.heap.size) va vc pa pc ma mc Z h1 V ab);have HE:=kh (fun Z h=>bQ e.g.vars Y e.box (· < w.heap.size) va vc Z h);by_cases h1:e.num
 . unfold EX.cells EX.valid;unfold EX.num at h1 ⊢;obtain ⟨en,ep,ef,⟨bv,bl,bi⟩,g⟩:=e;simp only at aa U Y L M ab HN HC HE h1 ⊢;obtain ⟨o1,⟨o2,o3⟩,o4,o5⟩:=h1;rw [o1] at HN;simp only [o1,o2,o3,o4,o5,true_and,and_self];have f:=L.vars;refine Ae func12 ntmps12 rfl rfl ?_;refine cS (eB [_,_,_,_,_,_,_,_,_,_,_,_] ?_);intro b1 w2 N x5 p6 z7;revert X L M f;refine eE x5 ?_;intro X L M f;refine eK ?_;refine cC rfl (HN.out _) ?_;rintro _ w9 ⟨⟨⟩,x8⟩;revert N X L M f;refine eY x8 ?_;intro bc N X L M f;refine C1 Pt (C1 Mv (Bl rfl rfl rfl (rfl) (C1 Pf (Bl rfl rfl rfl (rfl) (C1 (Pl N) (Bl rfl rfl rfl (rfl) (C1 V3 (C1 (Cd rfl rfl rfl) (C1 Mv (LX (C1 Pf ?_)))))))))));refine LX (C1 (Pl N) (LX (C1 V5 (C1 O2 (C1 Mv (LX (C1 Pf (LX (C1 (Pl N) (LX (C1 V3 ?_)))))))))));refine C1 O2 (C1 Mv (LX (C1 Pf (LX (C1 (Pl N) (LX (C1 V5 (C1 O2 (cT (E4 (Av ?_)))))))))));refine Ai (Al ?_);by_cases V:g.acc
   . have HI:=kh (fun Z h=>Mg U V.1 (· < w.heap.size) va vc pa pc ma mc Z h);rw [<-PG.pinv_eq] at HI;have HD:=kh (fun va vc pa pc ma mc Z S h1 ak h3=>eH (PG.pinv_wf U V.1) S va vc pa pc ma mc Z h1 ak h3);rw [decide_eq_true V] at HC;simp only [V,true_and];clear V U;refine eK ?_;refine cC rfl (HC.out _ Af Af) ?_;rintro _ bd ⟨⟨⟩,al⟩;revert N X L M f;refine eY al ?_;intro be N X L M f;refine eK ?_;refine Au (By BD rfl (HI.out _ Af) (fun _ _ ⟨_,_,_,_,_,_,h⟩=>⟨_,h.1⟩)) rfl ?_ aFh;rintro _ aw ⟨ax,⟨ay,⟨az,⟨a0,⟨a1,⟨a2,⟨⟨⟩,⟨E,⟨F,⟨a3,ac⟩⟩⟩⟩⟩⟩⟩⟩⟩⟩;revert N X L M f;refine eY ac ?_;intro a4 N X L M f;refine eK ?_;refine xA [_,_,_,_,_,_] ?_;intro a5 a6 ad;refine eI [_,_,_,_,_,_] ad ?_;intro a7 O ae a8 a9;revert E F N X L M f;refine eE ae ?_;intro E F N X L M f;refine C1 Pa (cT (Al ?_));by_cases h3:g.pinv.acc
     . rw [decide_eq_true h3] at HD;simp only [h3,true_and];generalize g.pinv=u at *;generalize G9 g.vars ⟨bv,bl,bi⟩=r at *;obtain ⟨n,k⟩:=r;simp only at HE ⊢;refine eK ?_;refine cC rfl (HD.out _ _ _ _ _ _ _ _ Af Af Af) ?_;rintro _ bf ⟨⟨⟩,am⟩;revert N X L M f O E F;refine eY am ?_;intro bg N X L M f O E F;refine eK ?_;refine cC rfl (HE.out _ Af) ?_;rintro _ bh ⟨⟨⟩,an⟩;revert N X L M f O E F;refine eY an ?_;intro bj N X L M f O E F;refine C1 Mv (C1 Px (C1 Px (C1 Pa (C1 Pa (cT ?_)))));by_cases hk:k=0
       . subst hk;simp only [true_and];refine eK ?_;refine xR ?_;exact ⟨rfl,X⟩
       . simp only [hk,false_and,decide_false];refine eK ?_;refine xR ?_;exact ⟨rfl,X⟩
     . rw [decide_eq_false h3] at HD;simp only [h3,false_and,decide_false];generalize g.pinv=u at *;refine eK ?_;refine cC rfl (HD.out _ _ _ _ _ _ _ _ Af Af Af) ?_;rintro _ bk ⟨⟨⟩,ao⟩;revert N X L M f O E F;refine eY ao ?_;intro bm N X L M f O E F;refine eK ?_;refine xR ?_;exact ⟨rfl,X⟩
   . rw [decide_eq_false V] at HC;simp only [V,false_and,decide_false];clear V U;refine eK ?_;refine cC rfl (HC.out _ Af Af) ?_;rintro _ bn ⟨⟨⟩,ap⟩;revert N X L M f;refine eY ap ?_;intro bo N X L M f;refine eK ?_;refine xR ?_;exact ⟨rfl,X⟩
 . rw [decide_eq_false (fun h=>h1 h.1)];unfold EX.cells;unfold EX.num at h1;obtain ⟨en,ep,ef,⟨bv,bl,bi⟩,g⟩:=e;simp only at aa U Y L M ab HN HC HE h1 ⊢;clear HC HE L M U;cases o1:AS en
   . rw [o1] at HN;refine Ae func12 ntmps12 rfl rfl ?_;refine cS (eB [_,_,_,_,_,_,_,_,_,_,_,_] ?_);intro bp bq af aq br bs;have X:=X.ext aq;refine eK ?_;refine cC rfl (HN.out _) ?_;rintro _ bt ⟨⟨⟩,ar⟩;revert af X;refine eY ar ?_;intro ba af X;refine eK ?_;refine xR ?_;exact ⟨rfl,X⟩
   . rw [o1] at HN;have V : ¬((1<=ep/\ep<=1000)/\0<=ef/\ef<=1000000):=fun h=>h1 ⟨o1,h⟩
     refine Ae func12 ntmps12 rfl rfl ?_
     focus
      refine cS (eB [_,_,_,_,_,_,_,_,_,_,_,_] ?_);intro bu bw ag au bx bz;have X:=X.ext au;refine eK ?_;refine cC rfl (HN.out _) ?_;rintro _ b0 ⟨⟨⟩,av⟩;revert ag X;refine eY av ?_;intro bb ag X;refine eK ?_;refine DG rfl rfl rfl (fun ah=>?_) (fun ah=>?_);refine eK ?_;refine xR ?_;rotate_left;refine eK ?_;refine DG rfl rfl rfl (fun ai=>?_) (fun ai=>?_);refine eK ?_;refine xR ?_;rotate_left;refine eK ?_;refine DG rfl rfl rfl (fun aj=>?_) (fun aj=>?_);refine eK ?_;refine xR ?_;rotate_left;refine eK ?_;refine xR ?_;rotate_left
     all_goals first|exact ⟨rfl,X⟩|exact absurd Aa V
def bR (e:EX) (Z:e.wf) (hv:e.valid) (S:nP) (O:oA) (U:Nat) (V:oA) (pc:Nat) (Y:oA) (mc:Nat) (w:wD) (f:e.sits S w O V Y U) :
 Calls prog 22 #[.agg (e.cells O U V pc Y mc).toArray] w (Mf e.g.pinv 0 w):=by
 have X:=lN w;have f:=f.ltA;have HV:=kh (fun w1 h=>LB e Z (· < w.heap.size) O U V pc Y mc w1 h);rw [decide_eq_true hv] at HV;have HI:=kh (fun w1 h=>Mg Z.g hv.2.1.1 (· < w.heap.size) O U V pc Y mc w1 h);rw [<-PG.pinv_eq] at HI;clear Z hv;have F:=f.g;unfold EX.cells at *;generalize e.g.pinv=u at *;refine Ae func22 ntmps22 rfl rfl ?_;refine cS (eB [_,_,_,_,_,_,_,_,_,_,_,_] ?_);intro b1 w2 L x5 p6 z7;revert X f F;refine eE x5 ?_;intro X f F;refine eA [_,_,_,_,_,_] ?_;intro b8 w9 E aa al am;revert L X f F;refine eE aa ?_;intro L X f F;refine eK ?_;refine BG [_,_,_,_,_,_,_,_,_,_,_,_] Ab rfl rfl rfl L rfl rfl rfl (cC rfl (HV.out _ Af) ?_);rintro _ an ⟨⟨⟩,ab⟩;revert E L X f F;refine eY ab ?_;intro ao E L X f F;refine eK ?_;refine Au (By BD rfl (HI.out _ Af) (fun _ _ ⟨_,_,_,_,_,_,h⟩=>⟨_,h.1⟩)) rfl ?_ aFh;rintro _ ap ⟨af,⟨ag,⟨ah,⟨ai,⟨aj,⟨ak,⟨⟨⟩,⟨M,⟨N,⟨ac,ad⟩⟩⟩⟩⟩⟩⟩⟩⟩⟩;revert E L X f F;refine eY ad ?_;intro aq E L X f F;refine eK ?_;refine eS [_,_,_,_,_,_] E ?_;intro ar au ae av;revert M N L X f F;refine eF ae ?_;intro M N L X f F;refine C1 Pa (cT (BO ?_));refine GG rfl Ab rfl rfl rfl Af rfl rfl ?_;exact PI M N ac X Aa Aa
def PDsC.move {S S':nP} {w w':wD} {l:List PD} {a:oA} (h:PDsC S w l a) (f : ∀b,S b->S' b) (E : ∀b o v,S b->w.cell? ⟨b,o,none⟩=some v->w'.cell? ⟨b,o,none⟩=some v):PDsC S' w' l a:=
 h.mono f (fun b _ _ _ F ⟨L,pc,ba,bc,h1,h2,h3,h4⟩=>⟨L,pc,ba,bc,M9 h1 (fun o v=>E b o v F),h2.move f E,Nd.sits_mono f E _ ba h3,h4⟩)
def EX.sits.move {S S':nP} {w w':wD} {e:EX} {L M f:oA} {N:Nat} (h:e.sits S w L M f N) (E : ∀b,S b->S' b) (F : ∀b o v,S b->w.cell? ⟨b,o,none⟩=some v->w'.cell? ⟨b,o,none⟩=some v):e.sits S' w' L M f N:=
 have O:=h.p.move E F
 ⟨⟨h.g.vars.move E F,O.pds,Nd.sits_mono E F _ f h.g.main⟩,O,h.room⟩
def EX.sits.wide {S S':nP} {w:wD} {e:EX} {f E F:oA} {L:Nat} (h:e.sits S w f E F L) (M : ∀b,S b->S' b):e.sits S' w f E F L:=⟨h.g.wide M,h.p.wide M,h.room⟩
def EX.sits.lt2 {S:nP} {w:wD} {e:EX} {E F f:oA} {L:Nat} (h:e.sits S w E F f L):e.sits (fun b=>S b/\b<w.heap.size) w E F f L:=
 have M:=h.p.lt2
 ⟨⟨h.g.vars.lt2,M.pds,Ho _ f h.g.main⟩,M,h.room⟩
def jD (S:nP) (w:wD) (b o:Nat) (e:EX):Prop:= ∃va vc pa pc ma mc,Row w ⟨b,o,none⟩ (e.cells va vc pa pc ma mc)/\e.sits S w va pa ma vc
def EXs (S:nP) (w:wD) (l:List EX) (a:oA):Prop:=Arr S 12 (jD S) w l a
def EXs.ext {S:nP} {w w':wD} {l:List EX} {a:oA} (h:EXs S w l a) (x:Ext w w'):EXs S w' l a:=
 h.mono aFh (fun _ _ _ _ _ ⟨f,vc,pa,pc,ma,mc,h1,h2⟩=>⟨f,vc,pa,pc,ma,mc,h1.ext x,h2.ext x⟩)
instance {S:nP} {w w':wD} {l:List EX} {a:oA}:LfE w w' (EXs S w l a) (EXs S w' l a):=⟨fun x h=>Bk.EXs.ext h x⟩
def EXs.fr {S T:nP} {w w':wD} {l:List EX} {a:oA} (h:EXs S w l a) (x:Fr T w w') (f : ∀b,S b -> ¬T b):EXs S w' l a:=
 h.mono aFh (fun b _ _ _ E ⟨F,vc,pa,pc,ma,mc,h1,h2⟩=>⟨F,vc,pa,pc,ma,mc,h1.fr x (f b E),h2.fr x f⟩)
instance {S T:nP} {w w':wD} {l:List EX} {a:oA}:LfF T w w' (EXs S w l a) (∀b,S b -> ¬T b) (EXs S w' l a):=⟨fun x s h=>Bk.EXs.fr h x s⟩
def EXs.ltA {S:nP} {w:wD} {l:List EX} {a:oA} (h:EXs S w l a):EXs (· < w.heap.size) w l a:=by
 rcases h with h|⟨b,o,h1,Z,f⟩
 . exact kj h
 . cases l with
   | nil=>exact kj rfl
   | cons p r=>
    obtain ⟨E,F,L,M,N,O,U,-⟩:=f 0 p rfl;refine kp ⟨b,o,h1,CQ (U.at0 rfl),fun i v V=>?_⟩;obtain ⟨E,F,L,M,N,O,X,Y⟩:=f i v V;exact ⟨E,F,L,M,N,O,X,Y.ltA⟩
def EXs.take {S:nP} {w:wD} {l:List EX} {a:oA} (h:EXs S w l a) (n:Nat):EXs S w (l.take n) a:=by
 rcases h with h|⟨b,o,h1,E,F⟩
 . exact kj (by rw [h];simp)
 . refine kp ⟨b,o,h1,E,fun i x f=>F i x ?_⟩;rw [List.getElem?_take] at f;split at f
   . exact f
   . cases f
def Gb:Shape EX where
 sz:=12
 rep:=fun w S e cs=> ∃va vc pa pc ma mc,cs=e.cells va vc pa pc ma mc/\e.sits S w va pa ma vc
 len:=fun ⟨_,_,_,_,_,_,h,_⟩=>by rw [h];rfl
 one:=fun ⟨_,_,_,_,_,_,h,_⟩=>by rw [h];rfl
 mono:=fun ⟨va,vc,pa,pc,ma,mc,h,h1⟩ hS hc=>⟨va,vc,pa,pc,ma,mc,h,h1.move hS hc⟩
 lt:=fun ⟨va,vc,pa,pc,ma,mc,h,h1⟩=>⟨va,vc,pa,pc,ma,mc,h,h1.lt2⟩
def OwnQ.exs {w:wD} {R:nP} {B e:Nat} {a:oA} {len cap:Nat} {xs:List EX} {S:nP} (h:OwnQ Gb w R B e (.slice a len cap) xs) (M : ∀b,R b->S b) (N : ∀b,B<=b->b<w.heap.size->S b):EXs S w xs a:=by
 by_cases E:xs=[]
 . exact kj E
 . obtain ⟨g,F,L,O,U,f⟩:=h.rows E;simp only [kT] at L;obtain ⟨rfl,-,-⟩:=L;refine kp ⟨g,0,rfl,N g O U,fun i x V=>?_⟩;obtain ⟨cs,X,Y,Z,pa,pc,ma,mc,rfl,h2⟩:=f i x V;exact ⟨Y,Z,pa,pc,ma,mc,by simpa [Gb] using X,h2.wide M⟩
def GR (l:List EX) (s:lB):Bool:=l.any fun e=>e.name==s
def eJ (l:List EX) (hl:l.length<=1000000) (s:lB) (S:nP) (a:oA) (c:Nat) (w:wD) (f:EXs S w l a) :
 Calls prog 29 #[.slice a l.length c,str s] w fun r w'=>r = .returned (.bool (GR l s))/\Ext w w':=by
 have X:=lN w;have f:=f.ltA;refine Ae func29 ntmps29 rfl rfl ?_;refine cS (C1 Pa (cT (Al (cS (C1 Mv (C1 Pz (C1 Mv (cT ?_))))))));refine Ax ?_;refine AM (ι:=Nat) (fun j=>[(1,str s),(4,.bool false),(7,.slice a l.length c),(8,.int .i64 l.length),(9,.int .i64 j)])
  (fun j w'=>j<=l.length/\GR (l.take j) s=false/\EXs (· < w.heap.size) w' l a/\Ext w w') (fun j=>l.length-j) 0 sB ⟨kC _,rfl,f,X⟩ ?_
 clear f X;rintro j w1 ⟨hj,M,f,X⟩;by_cases E:j<l.length
 . obtain ⟨kb,ko,rfl,-,hk⟩:=mq f Aa;obtain ⟨va,vc,pa,pc,ma,mc,F,-⟩:=hk j _ (kg E);have L:GR (l.take (j+1)) s=(GR (l.take j) s||l[j].name==s):=by
    unfold GR;rw [ky E,List.any_append];simp
   rw [M,Bool.false_or] at L;have N:l[j].name=s->GR l s=true:=fun h=>by
    unfold GR;rw [List.any_eq_true];exact ⟨_,kq E,by simpa using h⟩
   clear hk;generalize l[j]=e at *;unfold EX.cells at F;by_cases he:e.name=s
   . rw [N he];clear L N;generalize e.name=t at *;refine eK ?_;refine xA [_,_,_,_,_,_,_,_,_,_,_,_] ?_;intro ab ac O;refine eI [_,_,_,_,_,_,_,_,_,_,_,_] O ?_;intro ad ae U af ag;revert X f F;refine eE U ?_;intro X f F;refine eK ?_;refine xR ?_;exact ⟨rfl,X⟩
   . have V:GR (l.take (j+1)) s=false:=by rw [L];simpa using he
     clear L N;generalize e.name=t at *;refine eK ?_;refine xA [_,_,_,_,_,_,_,_,_,_,_,_] ?_;intro ah ai Y;refine eI [_,_,_,_,_,_,_,_,_,_,_,_] Y ?_;intro aj Z aa ak al;revert X f F;refine eE aa ?_;intro X f F;refine cN (C1 Pg (C1 (Pl Z) (C1 Mv (C1 V8 (cT (TG (Av (Ad (Ai (Ag (C1 V7 ?_)))))))))));refine C1 Mv (Ah ?_);exact Ay (j+1) sB ⟨Aa,V,Af,X⟩ Aa
 . obtain rfl:j=l.length:=by omega
   rw [kE] at M;rw [M];refine eK ?_;refine xR ?_;exact ⟨rfl,X⟩
def FF (eb lb:Nat):lV:=[str [112,111,105,110,116,115],.pointer (some ⟨eb,1,none⟩),str [102,117,101,108],.pointer (some ⟨eb,2,none⟩),str [118,97,108,117,101],.pointer (some ⟨eb,3,none⟩),str [108,101,110,103,116,104],.pointer (some ⟨eb,4,none⟩),str [105,110,112,117,116],.pointer (some ⟨eb,5,none⟩),str [108,105,110,101,115],.pointer (some ⟨lb,0,none⟩)]
def FieldsR (eb lb:Nat) (w:wD):Ending->wD->Prop:=fun e w'=> ∃g,e = .returned (.slice (some ⟨g,0,none⟩) 6 6)/\Blk w' g (FF eb lb)/\w.heap.size<=g/\Ext w w'
def FieldsR.ret {f E:Nat} {w w':wD} {e:Ending} (h:FieldsR f E w e w') : ∃v,e = .returned v:=by
 obtain ⟨_,h,-⟩:=h;exact ⟨_,h⟩
def SJ (M N:Nat) (w:wD):Calls prog 61 #[.pointer (some ⟨M,0,none⟩),.pointer (some ⟨N,0,none⟩)] w (FieldsR M N w):=by
 have X:=lN w;refine Ae func61 ntmps61 rfl rfl ?_;refine eK ?_;refine AE (fun E=>Ext w E) 25 (.pure 0 (.pure 1 (.pure 2 (.pure 3 (.pure 4 (.pure 5 (.pure 6 (.pure 7 (.pure 8 (.pure 9 (.pure 10 (.pure 11 (.pure 12 (.pure 13 (.pure 14 (.pure 15 (.pure 16 (.pure 17 (.pure 18 (.pure 19 (.pure 20 (.pure 21 (.pure 22 (.pure 23 (.pure 24 .tail))))))))))))))))))))))))) mixed BD (Ac An) ?_;intro O F _;have f:(fun E=>Ext w E) O:=F;simp only at f;have z4:=F.size;have X:=X.ext F;refine ⟨f,?_⟩;refine eT ?_;refine Tq rfl (xB [_,_]) ?_;refine eT ?_;refine Tq rfl (xB [_,_]) ?_;refine eT ?_;refine Tq rfl (xB [_,_]) ?_;refine eT ?_;refine Tq rfl (xB [_,_]) ?_;refine eT ?_;refine Tq rfl (xB [_,_]) (Tq rfl Mv (Tq rfl (xB [_,_]) ?_));refine AI rfl ?_;refine Au (xS [_,_,_,_,_,_,_,_,_,_,_,_]) rfl ?_ aFh;rintro _ w6 ⟨U,rfl,h,t8⟩;have V:=h.blk;have L:=h.ext;have Y:=h.pos;have Z:=h.size;have X:=X.ext L;refine eK ?_;refine xR ?_;exact ⟨U,rfl,by exact V,Aa,X⟩
section
variable {α:Type} {c:α->Value} {h1 : ∀x,mm (c x)=true} {w:wD} {R:nP} {B e:Nat} {v:Value} {xs ys:List α}
def NP (c:α->Value) : ∀xs:List α,(xs.map fun x=>[c x]).flatten=xs.map c
 | []=>rfl
 | x::xs=>by simp only [lr,lg,NP c xs];rfl
def OwnQ.ofOwn (h:Own w B e 1 v xs.length (xs.map c)):OwnQ (Fo c h1) w R B e v xs:=
 ⟨⟨xs.map fun x=>[c x],by rw [NP];exact h,A6,fun i y cs E f=>by
  rw [List.getElem?_map,E] at f;exact (kG f).symm⟩⟩
def OwnQ.toOwn (h:OwnQ (Fo c h1) w R B e v xs):Own w B e 1 v xs.length (xs.map c):=by
 obtain ⟨f,F,O,M⟩:=h.ex;have N:f=xs.map fun x=>[c x]:=by
  apply List.ext_getElem?;intro i;rw [List.getElem?_map];rcases kK i xs.length with E|E
  . have L:f[i]? = some f[i]:=kg Aa;rw [L,kg E];exact congrArg some (M i _ _ (kg E) L)
  . rw [kO E,kO Aa];rfl
 rw [N,NP] at F;exact F
def OwnQ.lits {b:Nat} (h:TB w b (xs.map c) e) (f:B<=b) (E:0<xs.length) (F:xs.length<=1000):OwnQ (Fo c h1) w R B e (.slice (some ⟨b,0,none⟩) xs.length xs.length) xs:=
 OwnQ.ofOwn ⟨A6,kp ⟨b,xs.length,(xs.map c).toArray,rfl,f,h,kv _,by unfold maxLen;omega,A6,by simp;exact List.take_of_length_le A6⟩⟩
def Q7 {P:Program} {n:Nat} {l:Sl} {tab:Tab} {zt:E9} {ty:TypeId} {x y:Operand} {t sz1 cap m:Nat} {sE:Sk} {zs:lV} {p:Addr} (T:TabOk P tab) (Z:CU P zt) (ht:AC tab t=some (.slice e,sz1)) (hE:AC tab e=some (sE,1)) (hz:Dj zt e=some zs) (hzl:zs.length=1)
 (hby:DQ P e=true) (hx:ev l x=some v) (hy:ev l y=some (.slice (some p) m cap)) (hm:ys.length=m) (hown:OwnQ (Fo c h1) w R B e v xs) (hr:Row w p (ys.map c)) (h0:0<m) (hlen:xs.length+m<=10000000000) (hB:B<=w.heap.size) :
 Ce P n l (.call ⟨.builtin .append,#[x,y],#[t,t]⟩) ty w (dY (Fo c h1) w R B e v (xs++ys)):=by
 subst hm;have hd:=EW (P:=P) (n:=n) (l:=l) (ty:=ty) T Z ht hE hz hzl hby rfl hx hy hown.toOwn hr A6 (by rw [lG];intro u hu;obtain ⟨q,-,rfl⟩:=List.mem_map.1 hu;exact h1 q) Aa Aa hB;unfold Ce at hd ⊢;intro a dst pos after g next Q ha hn b;refine hd a dst pos after g next Q ha (fun v' w' hG=>?_) (fun w' hG=>hG.elim);obtain ⟨g1,g2,g,cap',rfl,g4⟩:=hG;have hg:=g1.blk (k:=g) rfl;refine hn _ w' ⟨g,cap',by rw [j9],OwnQ.ofOwn (by rw [j9,List.map_append];exact g1),g4,hg.2,g2⟩
def Un {P:Program} {n:Nat} {l:Sl} {tab:Tab} {zt:E9} {ty:TypeId} {ops:Array Oper} {Q:Exit->Act->wD->Prop} {rest:List Oper} {d:Nat} {pos:String} {after:Array Edge} {x y:Operand} {t M cap m:Nat} {sE:Sk} {U:lV} {p:Addr} (T:TabOk P tab) (Z:CU P zt) (V:AC tab t=some (.slice e,M)) (X:AC tab e=some (sE,1)) (Y:Dj zt e=some U) (N:U.length=1)
 (O:DQ P e=true) (hx:ev l x=some v) (hy:ev l y=some (.slice (some p) m cap)) (hm:ys.length=m) (F:OwnQ (Fo c h1) w R B e v xs) (hr:Row w p (ys.map c)) (h0:0<m) (L:xs.length+m<=10000000000) (hB:B<=w.heap.size) (hd:kH d n=true)
 (k : ∀g f E,OwnQ (Fo c h1) E R B e (.slice (some ⟨g,0,none⟩) (xs++ys).length f) (xs++ys)->(v.ownBlock=some g\/w.heap.size<=g)->g<E.heap.size->Fr (fun k=>v.ownBlock=some k) w E->LW P n ops Q rest ((d,.slice (some ⟨g,0,none⟩) (xs++ys).length f)::l) E) :
 LW P n ops Q (⟨some d,.call ⟨.builtin .append,#[x,y],#[t,t]⟩,ty,pos,after,none⟩::rest) l w:=
 Au (Q7 T Z V X Y N O hx hy hm F hr h0 L hB) hd (fun v E ⟨g,cap,h,ho,h1,h2,hf⟩=>by subst h;exact k g cap E ho h1 h2 hf) aFh
end
end Bk
namespace Bk
open Go Go.RowKit Go.Proofs
structure Tabs (w:wD):Prop where
 sym : ∀i,i<43->w.cell? ⟨1,i,none⟩=some (str (symbols.getD i []))
 pow:Lib.TabIs prog w "internal/strconv.uint64pow10" .u64 Lib.pow10Tab
def GH (k:Int) (w:wD) (f:0<=k) (h1:k<=255) (h:Tabs w):Calls prog 160 #[.int .u8 k] w fun e w'=>e = .returned (str (Cl k))/\w=w':=IZ k w f h1 ⟨h.sym⟩
open Go.Sort
def Q8 {P:Program} {B:Nat} {w w':wD} {name:String} {k:IntKind} {f:List Int} (h:Lib.TabIs P w name k f) (E:Below B w w') (F : ∀g,P.globalNamed name=some g->g<B):Lib.TabIs P w' name k f:=by
 unfold Lib.TabIs World.var? at *;cases hn:P.globalNamed name with
 | none=>rw [hn] at h;simp at h
 | some g=>rw [hn] at h;simp only [Option.bind_some] at h ⊢;rw [E.block g (F g hn)];exact h
def Tabs.belowF {B:Nat} {w w':wD} (h:Tabs w) (E:Below B w w') (M:prog.globals.size<=B):Tabs w':=by
 have h1:1<prog.globals.size:=of_decide_eq_true BD;have N:2<prog.globals.size:=of_decide_eq_true BD;refine ⟨fun i F=>(Below.cell (p:=⟨1,i,none⟩) E (by show 1<B;omega)).trans (h.sym i F),Q8 h.pow E fun g f=>?_⟩
 have L:prog.globalNamed "internal/strconv.uint64pow10" = some 2:=by kernel_rfl
 rw [L] at f
 injection f with f
 omega
def Tabs.extF {w w':wD} (h:Tabs w) (x:Ext w w') (f:prog.globals.size<=w.heap.size):Tabs w':=h.belowF x f
structure TabsF (w:wD):Prop where
 t:Tabs w
 g:prog.globals.size<=w.heap.size
def TabsF.ext {w w':wD} (h:TabsF w) (x:Ext w w'):TabsF w':=⟨h.t.extF x h.g,kW h.g x.size⟩
instance {w w':wD}:LfE w w' (TabsF w) (TabsF w'):=⟨fun x h=>Bk.TabsF.ext h x⟩
def TabsF.fr {S:nP} {w w':wD} (h:TabsF w) (x:Fr S w w') (f : ∀k,S k->prog.globals.size<=k):TabsF w':=
 ⟨h.t.belowF (B:=prog.globals.size) ⟨x.os,x.tape,x.output,x.size,fun k F=>x.block k (by have:=h.g;omega) (fun E=>by have:=f k E;omega)⟩ (kv _),kW h.g x.size⟩
instance {S:nP} {w w':wD}:LfF S w w' (TabsF w) (∀k,S k->prog.globals.size<=k) (TabsF w'):=⟨fun x s h=>Bk.TabsF.fr h x s⟩
def W5 (w:wD) (k:Nat) (f:Array Obj):Ext w (grow (w.drewN k) f):=by
 have h:(grow (w.drewN k) f).heap=w.heap++f:=rfl;refine ⟨rfl,rfl,rfl,?_,fun i E=>?_⟩
 . rw [h];simp
 . rw [h,Array.getElem?_append_left E]
def Vv (n:Int) (w:wD) (f:TabsF w) (h : -9223372036854775808<=n) (h1:n<=9223372036854775807) :
 Calls prog 62 #[.int .i64 n] w fun e w'=>e = .returned (str (Lib.itoa n))/\Ext w w':=
 (Tryz.strconv_Itoa n h h1 w f.t.pow).mono fun e w' ⟨E,k,os,hw⟩=>⟨E,hw▸W5 w k os⟩
def OwnQ.cap {α:Type} {sh:Shape α} {w:wD} {R:nP} {B e:Nat} {a:oA} {len cap:Nat} {xs:List α} (h:OwnQ sh w R B e (.slice a len cap) xs):xs.length<=cap:=by
 obtain ⟨E,⟨-,h1⟩,-⟩:=h.ex;rcases h1 with ⟨f,L⟩|⟨g,c,F,f,-,-,M,-⟩
 . omega
 . simp only [kT] at f;omega
def bS {w:wD} {R:nP} {B e:Nat} {a:oA} {cap:Nat} {xs:List lB} (sep:lB) (h:OwnQ NM w R B e (.slice a xs.length cap) xs) (hN:xs.length<=1000000000) (hlen:(Lib.join xs sep).length<=140737488355328) :
 Calls prog 63 #[.slice a xs.length cap,str sep] w fun r w'=>r = .returned (str (Lib.join xs sep))/\Ext w w':=by
 have hc:=h.cap;have he:=h.els (S:=fun b=>b<w.heap.size) (fun _ _ h=>h);by_cases hx:xs=[]
 . subst hx;refine (Tryz.strings_Join_none a cap ⟨sep.toArray⟩ w).mono fun r w' ⟨h1,h2⟩=>⟨?_,?_⟩
   . rw [h1];rfl
   . rw [h2];exact lN _
 . obtain ⟨g,o,rfl,hg,hr⟩:=bM he hx;have hm:(xs.map (fun l=>(⟨l.toArray⟩:ByteArray))).map (·.data.toList)=xs:=by
    rw [List.map_map]
    conv=>rhs;rw [<-List.map_id xs]
    exact List.map_congr_left (fun _ _=>rfl)
   have hl:(xs.map (fun l=>(⟨l.toArray⟩:ByteArray))).length=xs.length:=by simp
   have key:=Tryz.strings_Join g o cap (xs.map (fun l=>(⟨l.toArray⟩:ByteArray))) ⟨sep.toArray⟩ w (fun j x hj=>by
    rw [List.getElem?_map,Option.map_eq_some_iff] at hj;obtain ⟨y,hy,rfl⟩:=hj;have:=hr.at (i:=j) (v:=str y) (by simp [hy]);exact this) hg (by rw [hl];omega) (by rw [hl];exact hc) (by rw [hm];exact hlen)
   rw [hl,hm] at key;exact key.mono fun r w' ⟨h1,h2⟩=>⟨h1,h2⟩
end Bk
namespace Bk
open Go Go.RowKit Go.Proofs
attribute [local irreducible] Go.Calls
def FW (e:EX) (n:Int):List (lB×Int):=[([112,111,105,110,116,115],e.points),([102,117,101,108],e.fuel),([118,97,108,117,101],e.box.v),([108,101,110,103,116,104],e.box.l),([105,110,112,117,116],e.box.i),([108,105,110,101,115],n)]
def Ec (e:EX) (n:Int):List lB:=[[101,120,101,114,99,105,115,101],e.name]++(FW e n).flatMap fun p=>[p.1,Lib.itoa p.2]
def H4 (e:EX) (n:Int):lB:=Lib.join (Ec e n) [32]++[10]
structure EX.rng (e:EX):Prop where
 p : -9223372036854775808<=e.points/\e.points<=9223372036854775807
 f : -9223372036854775808<=e.fuel/\e.fuel<=9223372036854775807
 v : -9223372036854775808<=e.box.v/\e.box.v<=9223372036854775807
 l : -9223372036854775808<=e.box.l/\e.box.l<=9223372036854775807
 i : -9223372036854775808<=e.box.i/\e.box.i<=9223372036854775807
def Fp (e:EX) (n:Int) (j:Nat):List lB:=[[101,120,101,114,99,105,115,101],e.name]++((FW e n).take j).flatMap fun p=>[p.1,Lib.itoa p.2]
def SK (e:EX) (n:Int) (j:Nat) (p:lB×Int) (h:(FW e n)[j]? = some p):Fp e n (j+1)=Fp e n j++[p.1,Lib.itoa p.2]:=by
 unfold Fp;have f:j<(FW e n).length:=(List.getElem?_eq_some_iff.1 h).1;rw [ky f,List.flatMap_append,<-kA];rw [kg f] at h;rw [kG h];simp
def YZ (e:EX) (n:Int) (f E:Nat) (w:wD) (g:Nat) (N:Blk w g (FF f E)) {cs:lV} (O:Blk w f ([str e.name,.int .i64 e.points,.int .i64 e.fuel,.int .i64 e.box.v,.int .i64 e.box.l,.int .i64 e.box.i]++cs)) (U:Blk w E [.int .i64 n]) (j:Nat) (Y:j<6) :
 ∃L num fb M,(FW e n)[j]? = some (L,num)/\Row w ⟨g,0+j*2,none⟩ [str L,.pointer (some ⟨fb,M,none⟩)]/\Row w ⟨fb,M,none⟩ [.int .i64 num]/\(fb=f\/fb=E):=by
 have h:=N.row.sub (j*2) 2;have V:=O.row;have key : ∀(o:Nat) (num:Int),([str e.name,.int .i64 e.points,.int .i64 e.fuel,.int .i64 e.box.v,.int .i64 e.box.l,.int .i64 e.box.i]++cs)[o]? = some (.int .i64 num)->Row w ⟨f,o,none⟩ [.int .i64 num]:=fun o num X i v F=>by
  match i,F with
  | 0,F=>
   simp only [List.getElem?_cons_zero,kz] at F;subst F;have:=V.at X;simpa [lA] using this
 rcases (show j=0\/j=1\/j=2\/j=3\/j=4\/j=5 by omega) with rfl|rfl|rfl|rfl|rfl|rfl
 . exact ⟨_,_,f,1,rfl,h,key 1 _ rfl,kj rfl⟩
 . exact ⟨_,_,f,2,rfl,h,key 2 _ rfl,kj rfl⟩
 . exact ⟨_,_,f,3,rfl,h,key 3 _ rfl,kj rfl⟩
 . exact ⟨_,_,f,4,rfl,h,key 4 _ rfl,kj rfl⟩
 . exact ⟨_,_,f,5,rfl,h,key 5 _ rfl,kj rfl⟩
 . exact ⟨_,_,E,0,rfl,h,U.row,kp rfl⟩
def LC (e:EX) (n:Int) (h:e.rng) (F:0<=n/\n<=9223372036854775807) : ∀p∈FW e n,-9223372036854775808<=p.2/\p.2<=9223372036854775807:=by
 intro p E;simp only [FW,kF,List.mem_nil_iff,or_false] at E;rcases E with rfl|rfl|rfl|rfl|rfl|rfl
 . exact h.p
 . exact h.f
 . exact h.v
 . exact h.l
 . exact h.i
 . exact ⟨by show -9223372036854775808<=n;omega,F.2⟩
def Ka (e:EX) (n:Int) (j:Nat) (h:j<=6):(Fp e n j).length=2+2*j:=by
 rcases (show j=0\/j=1\/j=2\/j=3\/j=4\/j=5\/j=6 by omega) with rfl|rfl|rfl|rfl|rfl|rfl|rfl<;>simp [Fp,FW]
def LD : ∀l:List (lB×Int),(∀p∈l,p.1.length<=10 /\ -9223372036854775808<=p.2/\p.2<=9223372036854775807)->Lib.lens (l.flatMap fun p=>[p.1,Lib.itoa p.2])<=l.length*31
 | [],_=>by simp [Lib.lens]
 | p::l,h=>by
  have h1:=h p A6;have F:=Lib.itoa_length_le p.2 h1.2.1 h1.2.2;have f:=LD l (fun q E=>h q (by simp [E]));unfold Lib.lens at f ⊢;simp only [List.flatMap_cons,kD,lk,lr,List.sum_cons,kf];omega
def PK (e:EX) (n:Int):(FW e n).length=6:=rfl
def NQ (e:EX) (n:Int) : ∀p∈FW e n,p.1.length<=10:=by
 intro p f;simp only [FW,kF,List.mem_nil_iff,or_false] at f;rcases f with rfl|rfl|rfl|rfl|rfl|rfl<;>simp
def NR : ∀l:List (lB×Int),(l.flatMap fun p=>[p.1,Lib.itoa p.2]).length=l.length*2
 | []=>rfl
 | p::l=>by simp only [List.flatMap_cons,j9,kf,ki,NR l];omega
def W6 (e:EX) (n:Int) (h:e.rng) (E:0<=n/\n<=9223372036854775807) (F:e.name.length<=100000):(Lib.join (Ec e n) [32]).length<=140737488355328:=by
 have h1:=LD (FW e n) (fun p f=>⟨NQ e n p f,LC e n h E p f⟩);have L:=NR (FW e n);rw [PK] at h1 L;unfold Ec;generalize (FW e n).flatMap (fun p=>[p.1,Lib.itoa p.2])=r at *;rw [kD,Lib.join_length];unfold Lib.lens at h1 ⊢;simp only [kD,lk,kf,ki,lr,List.sum_cons];omega
def Y0 (e:EX) (n:Int) (hr:e.rng) (hn:0<=n/\n<=9223372036854775807) (ao:e.name.length<=100000) (va:oA) (vc:Nat) (pa:oA) (pc:Nat) (ma:oA) (mc:Nat) (w:wD) (N:TabsF w) :
 Calls prog 32 #[.agg (e.cells va vc pa pc ma mc).toArray,.int .i64 n] w fun r w'=>r = .returned (str (H4 e n))/\Ext w w':=by
 have X:=lN w;have HF:=kh (fun eb lb w1=>SJ eb lb w1);have bp:=N.g;have ap:=W6 e n hr hn ao;unfold EX.cells;refine Ae func32 ntmps32 rfl rfl ?_;refine cS (eB [_,_,_,_,_,_,_,_,_,_,_,_] ?_);intro b1 w2 O x5 p6 z7;revert N X;refine eE x5 ?_;intro N X;refine eB [_] ?_;intro b8 w9 E aq bq br;revert O N X;refine eE aq ?_;intro O N X;refine eK ?_;refine Au (xS [_,_]) rfl ?_ aFh;rintro _ bs ⟨ar,rfl,ad,au⟩;have aa:TB _ _ _ _:=au;have av:=ad.ext;have bt:=ad.pos;have z22:=ad.size;revert E O N X;refine eE av ?_;intro E O N X;refine eK ?_;refine eQ rfl (HF.out _ _ _) ?_;rintro _ bu ⟨Y,⟨⟨⟩,⟨F,⟨bv,aw⟩⟩⟩⟩;revert aa E O N X;refine eY aw ?_;intro bw aa E O N X;refine C1 Pz (C1 Mv (cT ?_));have ae:=F.lt;have a6:=X.size;refine Ax ?_;refine AM (ι:=Nat×oA×Nat) (fun x=>[(5,.slice x.2.1 (Fp e n x.1).length x.2.2),(11,.slice (some ⟨Y,0,none⟩) 6 6),(12,.int .i64 6),(13,.int .i64 x.1)])
  (fun x w'=>x.1<=6/\OwnQ NM w' (fun _=>False) (b8+1) 9 (.slice x.2.1 (Fp e n x.1).length x.2.2) (Fp e n x.1)/\(∀k,(lm x.2.1 (Fp e n x.1).length x.2.2).ownBlock=some k->k≠Y)/\Blk w' Y (FF b1 b8)/\Blk w' b8 [.int .i64 n]/\Blk w' b1 [str e.name,.int .i64 e.points,.int .i64 e.fuel,.int .i64 e.box.v,.int .i64 e.box.l,.int .i64 e.box.i,.slice va e.g.vars.length vc,.slice pa e.g.procs.length pc,.int .u8 e.g.main.kind,.int .i64 e.g.main.num,str e.g.main.name,.slice ma e.g.main.kids.length mc]/\TabsF w'/\Ext w w'/\Y<w'.heap.size)
  (fun x=>6-x.1) (0,some ⟨ar,0,none⟩,2) sB ⟨kC _,OwnQ.lits (xs:=Fp e n 0) aa Aa (by rw [Ka e n 0 Aa];omega) (by rw [Ka e n 0 Aa];omega),fun k hk=>by simp only [lp,kz] at hk;omega,F,E,O,N,X,ae⟩ ?_
 clear F E O N X aa ae;rintro ⟨j,ra,rc⟩ w3 ⟨hj,f,af,F,E,O,N,X,ae⟩;simp only at hj f af;have U : ∀k,(lm ra (Fp e n j).length rc).ownBlock=some k->b8<k/\k<w3.heap.size/\k≠Y:=fun k h=>⟨f.ge h,f.lt h,af k h⟩
 have ag:=Ka e n j hj;by_cases ax:j<6
 . obtain ⟨wd,num,fb,fo,hf,r1,r2,bx⟩:=YZ e n b1 b8 w3 Y F O E j ax;have hs:=SK e n j _ hf;have ay:=LC e n hr hn _ (List.mem_of_getElem? hf);simp only at hs ay;have a7:(Fp e n j).length<=100:=by omega
   clear ag hf;generalize Fp e n j=ws at *;refine eK ?_;refine xA [_,_] ?_;intro bz b0 az;refine eI [_,_] az ?_;intro ah V a0 b2 b3;revert F E O N X r1 r2 f;refine eE a0 ?_;intro F E O N X r1 r2 f;refine cT (AE (fun wz=>Ext ah wz) 9 (.pure 0 (.pure 1 (.pure 2 (.pure 3 (.pure 4 (.pure 5 (.pure 6 (.fork 7 (.fork 8 .tail .none) .none)))))))) mixed BD (Ak (Ac (Ac (Ak (Ac An))))) ?_);intro a1 ab _;have L:(fun wz=>Ext ah wz) a1:=ab;simp only at L;have a2:=V;have a3:=F;have a4:=E;have a8:=O;have a9:=N;have ba:=r1;have ai:=r2;have an:=f;revert V F E O N X r1 r2 f;refine eY ab ?_;intro bb V F E O N X r1 r2 f;refine ⟨L,?_⟩;refine eT ?_;refine Tq rfl (AA Ab rfl rfl rfl (fun wz hz=>Row.at0 (mf ai hz) rfl)) ?_;refine tC rfl rfl (Vv _ _ Af Aa Aa) ?_;rintro _ bc ⟨⟨⟩,aj⟩;revert L V F E O N X r1 r2 f;refine eY aj ?_;intro bd L V F E O N X r1 r2 f;refine ⟨L,?_⟩;refine A1 rfl (xS [_,_]) rfl ?_ aFh A9;rintro _ be ⟨bf,rfl,Z,bg⟩;have ac:=Z.blk;have ak:=Z.ext;have bh:=Z.pos;have bi:=Z.size;revert L V F E O N X r1 r2 f;refine eE ak ?_;intro L V F E O N X r1 r2 f;refine ⟨L,?_⟩;refine AI rfl (Un (ys:=[wd,Lib.itoa num]) Ab C9 rfl rfl rfl rfl BD rfl rfl rfl Af (l8 Af) Aa Aa Aa rfl ?_);rintro bj al bk bm am bn M;have bo:=M.size;have ac:=lW ac M (fun e=>by have:=U _ e;omega);have V:=lW V M (fun e=>by have:=U _ e;omega);have F:=lW F M (fun e=>(U _ e).2.2 rfl);have E:=lW E M (fun e=>by have:=U _ e;omega);have O:=lW O M (fun e=>by have:=U _ e;omega);have N:=TabsF.fr N M (fun k hk=>by have:=U _ hk;omega);have X:=mt X M (fun k hk=>by have:=U _ hk;omega);have r1:=Row.fr r1 M (fun e=>(U _ e).2.2 rfl);clear r2 f M;refine C1 Pa (Ah (Ad (Ai (Ag (C1 V7 (C1 Mv (Ah ?_)))))))
   exact Ay (j+1,some ⟨_,0,none⟩,_) (by dsimp only;rw [hs];(refine Am rfl ?_;refine Am rfl ?_;refine Am rfl ?_;refine Am rfl ?_;exact BB)) ⟨by (try dsimp only);omega,by dsimp only;rw [hs];assumption,fun k hk=>by
    simp only [lp,kz] at hk;subst hk;rcases am with h|h
    . exact (U _ h).2.2
    . omega,F,E,O,N,X,Aa⟩ (by (try dsimp only);omega)
 . obtain rfl:j=6:=by omega
   unfold H4;have he:Fp e n 6=Ec e n:=rfl;rw [he] at f ag;refine CW.sub (m:=[(5,.slice ra (Ec e n).length rc),(11,.slice (some ⟨Y,0,none⟩) 6 6),(12,.int .i64 6),(13,.int .i64 6)]) ?_ sB;clear af U he;generalize Ec e n=ws at *;have HJ:=kh (fun w1 (h:OwnQ NM w1 (fun _=>False) (b8+1) 9 (.slice ra ws.length rc) ws)=>bS [32] h Aa ap);refine eK ?_;refine cC rfl (HJ.out _ Af) ?_;rintro _ b4 ⟨⟨⟩,a5⟩;revert F E O N X f;refine eY a5 ?_;intro b5 F E O N X f;refine C1 (Rr rfl rfl (by simp only [kf,ki];omega)) ?_;refine eK ?_;refine xR ?_;exact ⟨rfl,X⟩
end Bk
