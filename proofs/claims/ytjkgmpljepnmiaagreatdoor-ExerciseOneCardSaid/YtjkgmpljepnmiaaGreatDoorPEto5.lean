/- Texts that the proofs of ExerciseTwice, ExerciseOne need. No condition. (Part 5 of 8.) -/
import Derived.Test.YtjkgmpljepnmiaaGreatDoorPEto4
set_option linter.unusedSimpArgs false
set_option linter.unusedVariables false
set_option linter.defProp false
set_option maxRecDepth 100000
set_option maxHeartbeats 4000000
open Go.Proofs.Tryz
open List renaming length_append->ZZ,getElem?_eq_getElem->Z0,length_cons->Z1,length_nil->Z4,getElem_cons_succ->Z5,set_cons_zero->Z7,getElem_mem->Z8,take_succ_eq_append_getElem->aD,take_length->aH,flatten_cons->aJ,mem_cons->aK,getElem?_eq_none->aN,not_mem_nil->aR,replicate->aT,append_assoc->aW,take_append_drop->aZ,length_take->bB,drop_eq_getElem_cons->bD,getElem?_append_left->bG,take_succ_cons->bQ,all_eq_true->bR,getElem?_append_right->bS,getD_eq_getElem?_getD->bT,cons_append->bU,mem_singleton->bW,map_cons->bZ
open Go.Lib renaming hid->Z2,indexByte->bA
open Bool renaming and_eq_true->Z3,false_eq_true->bL
open Or renaming inl->Z6,inr->aA
open Option.some renaming injEq->Z9,inj->aI
open Go.Result renaming andThen->aB,andThen_ok->bN
open Nat renaming le_refl->aC,zero_le->aE,blt->aG,lt_or_ge->aL,le_of_ble_eq_true->aU,le_trans->bE,eq_of_beq_eq_true->bF,ble->bK,beq->bM
open Go.Sem renaming run_bind->aF,run_pure->aO
open Go renaming Calls->aM
open Go.Region renaming ready->aP,binds->bO
open Go.IntWalk renaming i64_in->aQ
open Go.Value.slice renaming injEq->aS
open Go.DataW renaming trod->aV
open List.cons renaming injEq->aX
open Array renaming getElem?_eq_none->aY
open Prod.mk renaming injEq->bC
open Go.Value renaming ownBlock->bH,slice->bI
open Go.Addr renaming add->bJ
open Go.Addr.mk renaming injEq->bX
open Bk.Ext renaming refl->cB,trans->cF,fr->dH
open Bk.Nd renaming size->cE
open Bk.Blk renaming fr->cH,cell->cI,ext->cL,row->cQ
open Bk.Nd.sits renaming wide->cJ,fr->dD
open Bk.Fr renaming refl->cU
open Bk.Value renaming one->dA
open Bk.Row renaming ext->dF
open Bk.Arr renaming get->dI
open Bk.VDs renaming fr->dJ
open Bk.rowSits renaming fr->dO
namespace Bk
open Go Go.RowKit Go.Proofs
attribute [local irreducible] Go.Calls
def PE {f:List PD} {s:lB} {i:Nat} (h:Fs f s=some i):i<f.length:=by
 unfold Fs at h;obtain ⟨E,-⟩:=List.findIdx?_eq_some_iff_getElem.1 h;exact E
set_option maxHeartbeats 8000000 in
def WX (g:PG) (hg:g.procs.length<=1000000) (k n:Int) (s:lB) (l:List Nd) (ka:oA) (kc:Nat) (v:List VD) (hv:v.length<=1000000) (S S':nP) (va:oA) (vc:Nat) (pa:oA) (pc:Nat) (ma:oA) (mc:Nat) (a:oA) (c:Nat) (w:wD) (f:PDs S w g.procs pa) (F:VDs S' w v a) :
 Calls prog 133 #[.agg (g.cells va vc pa pc ma mc).toArray,(Nd.mk k n s l).val ka kc,.slice a v.length c] w fun e w'=>e = .returned (.int .i64 (Dg g.procs v k s l.length))/\Ext w w':=by
 have X:=cB w;have f:=f.ltA;have HU:=Z2 (Y9 v hv s);have HF:=Z2 (N7 v hv s);have HP:=Z2 (Q9 g hg s);show Calls prog 133 #[.agg (g.cells va vc pa pc ma mc).toArray,.agg #[.int .u8 k,.int .i64 n,str s,.slice ka l.length kc],.slice a v.length c] w _;refine Ad func133 ntmps133 rfl rfl ?_
 focus
  refine cS (eB [_,_,_,_,_,_] ?_);intro b1 w2 L x5 p6 z7;revert F X f;refine eE x5 ?_;intro F X f;refine eB [_,_,_,_] ?_;intro b8 w9 E ab a0 a1;revert L F X f;refine eE ab ?_;intro L F X f;refine eK ?_;refine AN rfl (fun ac=>?_) (fun ac=>?_);rotate_left;rotate_left
 . have N:Dg g.procs v k s l.length=OA v s 1:=by unfold Dg;rw [AX Aa]
   rw [N];refine eK ?_;refine cC rfl (HU.out _ _ _ _ _ Ag) ?_;rintro _ a2 ⟨⟨⟩,ad⟩;revert E L F X f;refine eY ad ?_;intro a3 E L F X f;refine eK ?_;refine xR ?_;exact ⟨rfl,X⟩
 focus
  refine eK ?_;refine AN rfl (fun ae=>?_) (fun ae=>?_);rotate_left;refine Ah ?_;rotate_left
 . have N:Dg g.procs v k s l.length=OA v s 2:=by unfold Dg;rw [AC Aa,AX Aa]
   rw [N];refine eK ?_;refine cC rfl (HU.out _ _ _ _ _ Ag) ?_;rintro _ a4 ⟨⟨⟩,af⟩;revert E L F X f;refine eY af ?_;intro a5 E L F X f;refine eK ?_;refine xR ?_;exact ⟨rfl,X⟩
 refine EY (ι:=Unit) (fun _=>[(2,.slice a v.length c),(3,.pointer (some ⟨b1,0,none⟩)),(4,.pointer (some ⟨b8,0,none⟩)),(9,.int .u8 k),(22,.bool (decide (k=4\/k=5\/k=44\/k=45)))]) (fun _ w'=>w'=w9) ?_ ?_
 . focus
    refine eK ?_;refine AN rfl (fun ag=>?_) (fun ag=>?_);refine Am ?_;rotate_left;refine eK ?_;refine AN rfl (fun ah=>?_) (fun ah=>?_);refine Am ?_;rotate_left;refine eK ?_;refine AN rfl (fun ai=>?_) (fun ai=>?_);refine Am ?_;rotate_left;refine Aj (C1 V1 (C1 Pa (Ai ?_)));rotate_left
   all_goals exact CT () (Az rfl (Az rfl (Az rfl (Az rfl (BP rfl (congrArg Value.bool (decide_eq_decide.2 Aa)) Cj))))) rfl
 rintro-u1 h;subst h
 focus
  refine AN rfl (fun aj=>?_) (fun aj=>?_);rotate_left;refine Ah ?_;rotate_left
 . have N:Dg g.procs v k s l.length=OA v s 3:=by unfold Dg;rw [AC Aa,AC Aa,AX Aa]
   rw [N];refine eK ?_;refine cC rfl (HU.out _ _ _ _ _ Ag) ?_;rintro _ a6 ⟨⟨⟩,ak⟩;revert E L F X f;refine eY ak ?_;intro a7 E L F X f;refine eK ?_;refine xR ?_;exact ⟨rfl,X⟩
 refine EY (ι:=Unit) (fun _=>[(2,.slice a v.length c),(3,.pointer (some ⟨b1,0,none⟩)),(4,.pointer (some ⟨b8,0,none⟩)),(9,.int .u8 k),(31,.bool (decide (k=54\/k=55)))]) (fun _ w'=>w'=u1) ?_ ?_
 . focus
    refine eK ?_;refine AN rfl (fun al=>?_) (fun al=>?_);refine Am ?_;rotate_left;refine Aj (C1 V1 (C1 Pa (Ai ?_)));rotate_left
   all_goals exact CT () (Az rfl (Az rfl (Az rfl (Az rfl (BP rfl (congrArg Value.bool (decide_eq_decide.2 Aa)) Cj))))) rfl
 rintro-u2 h;subst h
 focus
  refine AN rfl (fun am=>?_) (fun am=>?_);rotate_left;refine Ah ?_;rotate_left
 . have N:Dg g.procs v k s l.length=E7 v s:=by unfold Dg;rw [AC Aa,AC Aa,AC Aa,AX Aa]
   rw [N];refine eK ?_;refine cC rfl (HF.out _ _ _ _ Ag) ?_;rintro _ a8 ⟨⟨⟩,an⟩;revert E L F X f;refine eY an ?_;intro a9 E L F X f;refine eK ?_;refine xR ?_;exact ⟨rfl,X⟩
 refine EY (ι:=Unit) (fun _=>[(2,.slice a v.length c),(3,.pointer (some ⟨b1,0,none⟩)),(4,.pointer (some ⟨b8,0,none⟩)),(9,.int .u8 k),(38,.bool (decide (k=50\/k=51)))]) (fun _ w'=>w'=u2) ?_ ?_
 . focus
    refine eK ?_;refine AN rfl (fun ao=>?_) (fun ao=>?_);refine Am ?_;rotate_left;refine Aj (C1 V1 (C1 Pa (Ai ?_)));rotate_left
   all_goals exact CT () (Az rfl (Az rfl (Az rfl (Az rfl (BP rfl (congrArg Value.bool (decide_eq_decide.2 Aa)) Cj))))) rfl
 rintro-u3 h;subst h
 focus
  refine AN rfl (fun ap=>?_) (fun ap=>?_);rotate_left;refine eK ?_;refine xR ?_;rotate_left
 . have N:Dg g.procs v k s l.length=Uj g.procs s l.length:=by unfold Dg;rw [AC Aa,AC Aa,AC Aa,AC Aa,AX Aa]
   rw [N];unfold Uj;have M:=Z2 (HP.out (· < w.heap.size) va vc pa pc ma mc);unfold Hk at M;cases hq:Fs g.procs s with
   | none=>
    rw [hq] at M;dsimp only at M;refine eK ?_;refine cC rfl (M.out _ Ag) ?_;rintro _ bb ⟨⟨⟩,aq⟩;revert E L F X f;refine eY aq ?_;intro bd E L F X f;refine eK ?_;refine xR ?_;exact ⟨rfl,X⟩
   | some i=>
    rw [hq] at M;dsimp only at M;have hi:=PE hq;obtain ⟨kb,ko,rfl,kS,O⟩:=f.get (by intro e;rw [e] at hi;simp at hi);obtain ⟨qa,qc,ba,bc,V,-,-⟩:=O i g.procs[i] (Z0 hi);have hm:((g.procs[i]?.map fun p=>p.params.length).getD 0)=g.procs[i].params.length:=by rw [Z0 hi];rfl
    dsimp only;rw [hm];clear O hm hq;generalize g.procs[i]=y at *
    focus
     refine eK ?_;refine cC rfl (M.out _ Ag) ?_;rintro _ Y ⟨⟨⟩,ar⟩;revert E F X L f V;refine eY ar ?_;intro be E F X L f V;refine eK ?_;refine AD (fun wz=>Ext Y wz) 10 (.pure 0 (.pure 1 (.pure 2 (.pure 3 (.pure 4 (.pure 5 (.pure 6 (.pure 7 (.pure 8 (.pure 9 .tail)))))))))) mixed Bo (Ab (Al (Ab An))) ?_;intro au Z _;have U:(fun wz=>Ext Y wz) au:=Z;simp only at U;have av:=E;have ay:=F;have az:=L;have aw:=f;have aa:=V;revert E F X L f V;refine eY Z ?_;intro bf E F X L f V;refine ⟨U,?_⟩;refine eT ?_;refine Tq rfl (Dr aa) (Tq rfl Pz ?_);refine AE rfl ?_;refine eK ?_;refine IP rfl (fun ax=>?_) (fun ax=>?_);refine eK ?_;refine xR ?_;rotate_left;refine eK ?_;refine xR ?_;rotate_left
    . rw [AC Aa];exact ⟨rfl,X⟩
    . rw [AX Aa];exact ⟨rfl,X⟩
 . have N:Dg g.procs v k s l.length=0:=by unfold Dg;rw [AC Aa,AC Aa,AC Aa,AC Aa,AC Aa]
   rw [N];exact ⟨rfl,X⟩
set_option maxHeartbeats 8000000 in
def PF (g:PG) (hg:g.procs.length<=1000000) (k n:Int) (s:lB) (l:List Nd) (hl:l.length<=1000000) (i:Nat) (hi:i<l.length) (v:List VD) (hv:v.length<=1000000) (S S' bs:nP) (va:oA) (vc:Nat) (pa:oA) (pc:Nat) (ma:oA) (mc:Nat) (ka:oA) (kc:Nat) (a:oA) (c:Nat) (w:wD) (f:PDs S w g.procs pa) (aj:rowSits bs w l ka) (E:VDs S' w v a) :
 Calls prog 135 #[.agg (g.cells va vc pa pc ma mc).toArray,(Nd.mk k n s l).val ka kc,.int .i64 i,.slice a v.length c] w fun e w'=>e = .returned (.int .i64 (OB g.procs v s l.length i (l[i]'hi).name))/\Ext w w':=by
 have X:=cB w;have f:=f.ltA;have aj:=Cv _ _ aj;obtain ⟨xb,xo,rfl,xS,an⟩:=B1 aj (by intro e;subst e;simp at hi);obtain ⟨xa,xc,h,-⟩:=an i l[i] (Z0 hi);clear an aj;have HF:=Z2 (Q6 v hv (l[i]).name);have HP:=Z2 (Q9 g hg s (· < w.heap.size) va vc pa pc ma mc);unfold Hk at HP;unfold OB;generalize l[i]=x at *;show Calls prog 135 #[.agg (g.cells va vc pa pc ma mc).toArray,.agg #[.int .u8 k,.int .i64 n,str s,.slice (some ⟨xb,xo,none⟩) l.length kc],.int .i64 i,.slice a v.length c] w _;generalize FK v x.name=o at *;cases o with
 | none=>
  dsimp only [Option.isSome,Option.getD] at HF;refine Ad func135 ntmps135 rfl rfl ?_;refine cS (eB [_,_,_,_,_,_] ?_);intro b1 w2 h4 x5 p6 z7;revert E X f h;refine eE x5 ?_;intro E X f h;refine eB [_,_,_,_] ?_;intro b8 w9 ak bt c9 da;revert h4 E X f h;refine eE bt ?_;intro h4 E X f h;refine eK ?_;refine C1 (Pw h) (cC rfl (HF.out _ _ _ _ Ag) ?_);rintro _ db ⟨⟨⟩,bu⟩;revert ak h4 E X f h;refine eY bu ?_;intro dc ak h4 E X f h;refine eK ?_;refine xA [_,_,_] ?_;intro dd de bv;refine eI [_,_,_] bv ?_;intro df dg bw dh di;revert ak h4 E X f h;refine eE bw ?_;intro ak h4 E X f h;refine eK ?_;refine xR ?_;exact ⟨rfl,X⟩
 | some d=>
  obtain ⟨dn,dk,dl⟩:=d;dsimp only [Option.isSome,Option.getD] at HF ⊢;cases hq:Fs g.procs s with
  | none=>
   rw [hq] at HP;dsimp only [Option.bind] at HP ⊢;refine Ad func135 ntmps135 rfl rfl ?_;refine cS (eB [_,_,_,_,_,_] ?_);intro dm dp V bx dq dr;revert E X f h;refine eE bx ?_;intro E X f h;refine eB [_,_,_,_] ?_;intro ds dt L a2 b3 b4;revert V E X f h;refine eE a2 ?_;intro V E X f h;refine eK ?_;refine C1 (Pw h) (cC rfl (HF.out _ _ _ _ Ag) ?_);rintro _ b5 ⟨⟨⟩,a3⟩;revert L V E X f h;refine eY a3 ?_;intro b6 L V E X f h;refine eK ?_;refine xA [_,_,_] ?_;intro b7 b9 Z;refine D3 [_,_,_] Ac rfl rfl rfl rfl rfl rfl Z rfl ?_;intro ca Z;have aa:=Z.blk;dsimp only at aa;have a4:=Z.ext;have cb:=Z.pos;have cc:=Z.size;revert L V E X f h;refine eE a4 ?_;intro L V E X f h;refine eK ?_;refine cC rfl (HP.out _ Ag) ?_;rintro _ ao ⟨⟨⟩,a5⟩;revert aa L V E X f h;refine eY a5 ?_;intro cd aa L V E X f h;refine eK ?_;refine AD (fun wz=>Ext ao wz) 13 (.pure 0 (.pure 1 (.pure 2 (.pure 3 (.pure 4 (.pure 5 (.pure 6 (.pure 7 (.pure 8 (.pure 9 (.pure 10 (.pure 11 (.pure 12 .tail))))))))))))) mixed Bo (Ab (Ab An)) ?_;intro a6 ap _;have ae:(fun wz=>Ext ao wz) a6:=ap;simp only at ae;have bo:=aa;have bp:=L;have bz:=V;have aq:=E;have af:=f;have ar:=h;revert aa L V E X f h;refine eY ap ?_;intro ce aa L V E X f h;refine ⟨ae,?_⟩;refine Tq rfl Mv (Tq rfl V3 (Tq rfl Mv (eM rfl (eM rfl (eM rfl (eM rfl (eM rfl (eM rfl (eM rfl (eM rfl (eM rfl ?_)))))))))));refine eM rfl ?_;refine AE rfl ?_;refine eK ?_;refine xR ?_
   exact ⟨rfl,X⟩
  | some j=>
   rw [hq] at HP;have hj:=PE hq;dsimp only [Option.bind] at HP ⊢;rw [Z0 hj];dsimp only;obtain ⟨kb,ko,rfl,kS,au⟩:=f.get (by intro e;rw [e] at hj;simp at hj);obtain ⟨qa,qc,ba,bc,M,az,-⟩:=au j g.procs[j] (Z0 hj);clear au hq;generalize g.procs[j]=y at *;by_cases hm:l.length=y.params.length
   . rw [AC Aa];obtain ⟨zb,zo,rfl,zS,a7⟩:=az.get (by intro e;rw [e] at hm;simp only [Z4] at hm;omega);have r1:=a7 i (y.params[i]'(by omega)) (Z0 Aa);rw [Z0 Aa];dsimp only;clear a7 az;generalize y.params[i]'(by omega)=q at *;obtain ⟨qn,qk,ql⟩:=q;replace r1:Row w ⟨zb,zo+i*3,none⟩ [str qn,.int .u8 qk,.int .i64 ql]:=r1;dsimp only;refine Ad func135 ntmps135 rfl rfl ?_
     focus
      refine cS (eB [_,_,_,_,_,_] ?_);intro du dv O b0 dw dx;revert E X h f M r1;refine eE b0 ?_;intro E X h f M r1;refine eB [_,_,_,_] ?_;intro dy dz F a8 cf cg;revert O E X h f M r1;refine eE a8 ?_;intro O E X h f M r1;refine eK ?_;refine C1 (Pw h) (cC rfl (HF.out _ _ _ _ Ag) ?_);rintro _ ch ⟨⟨⟩,a9⟩;revert F O E X h f M r1;refine eY a9 ?_;intro ci F O E X h f M r1;refine eK ?_;refine xA [_,_,_] ?_;intro cj ck ab;refine D3 [_,_,_] Ac rfl rfl rfl rfl rfl rfl ab rfl ?_;intro cl ab;have U:=ab.blk;dsimp only at U;have bb:=ab.ext;have cm:=ab.pos;have cn:=ab.size;revert F O E X h f M r1;refine eE bb ?_;intro F O E X h f M r1;refine eK ?_;refine cC rfl (HP.out _ Ag) ?_;rintro _ av ⟨⟨⟩,bd⟩;revert U F O E X h f M r1;refine eY bd ?_;intro co U F O E X h f M r1;refine eK ?_;refine AD (fun wz=>Ext av wz) 13 (.pure 0 (.pure 1 (.pure 2 (.pure 3 (.pure 4 (.pure 5 (.pure 6 (.pure 7 (.pure 8 (.pure 9 (.pure 10 (.pure 11 (.pure 12 .tail))))))))))))) mixed Bo (Ab (Ab An)) ?_;intro be aw _;have ag:(fun wz=>Ext av wz) be:=aw;simp only at ag;have bq:=U;have al:=F;have a0:=O;have aq:=E;have ar:=h;have af:=f;have ah:=M;have cp:=r1;revert U F O E X h f M r1;refine eY aw ?_;intro cq U F O E X h f M r1;refine ⟨ag,?_⟩;refine Tq rfl Mv (Tq rfl V3 (Tq rfl Mv (eN rfl (AV Ac rfl rfl rfl) (eN rfl (AA Ac rfl rfl rfl (fun wz hz=>cI (cL al hz) rfl)) (eN rfl (CX Ac rfl rfl) (eN rfl (AV Ac rfl rfl rfl) (eN rfl (AA Ac rfl rfl rfl (fun wz hz=>cI (cL a0 hz) rfl)) (eN rfl (BJ rfl) (eN rfl (Be Ac rfl rfl rfl rfl Aa Aa) (eN rfl (AV Ac rfl rfl rfl) (eN rfl (AA Ac rfl rfl rfl (fun wz hz=>Row.at (dF ah hz) rfl)) ?_)))))))))));refine eN rfl (CX Ac rfl rfl) ?_;refine AE rfl ?_;refine eK ?_;refine C1 (Pw M) ?_;refine eK ?_;refine xA [_,_,_] ?_;intro cr ct bf;refine eI [_,_,_] bf ?_
      intro cu cv bg cw cx;revert U F O E X h f M r1;refine eE bg ?_;intro U F O E X h f M r1;refine eK ?_;refine Dw rfl rfl rfl (fun bh=>?_) (fun bh=>?_);refine eK ?_;refine xR ?_;rotate_left;refine eK ?_;refine IP rfl (fun bi=>?_) (fun bi=>?_);refine eK ?_;refine xR ?_;rotate_left;refine eK ?_;refine xR ?_;rotate_left
     all_goals exact ⟨by simp [*],X⟩
   . rw [AX Aa];clear az;refine Ad func135 ntmps135 rfl rfl ?_;refine cS (eB [_,_,_,_,_,_] ?_);intro d0 d1 Y b2 d2 d3;revert E X h f M;refine eE b2 ?_;intro E X h f M;refine eB [_,_,_,_] ?_;intro d4 d5 N bj cy cz;revert Y E X h f M;refine eE bj ?_;intro Y E X h f M;refine eK ?_;refine C1 (Pw h) (cC rfl (HF.out _ _ _ _ Ag) ?_);rintro _ c0 ⟨⟨⟩,bk⟩;revert N Y E X h f M;refine eY bk ?_;intro c1 N Y E X h f M;refine eK ?_;refine xA [_,_,_] ?_;intro c2 c3 ac;refine D3 [_,_,_] Ac rfl rfl rfl rfl rfl rfl ac rfl ?_;intro c4 ac;have ad:=ac.blk;dsimp only at ad;have bl:=ac.ext;have c5:=ac.pos;have c6:=ac.size;revert N Y E X h f M;refine eE bl ?_;intro N Y E X h f M;refine eK ?_;refine cC rfl (HP.out _ Ag) ?_;rintro _ ax ⟨⟨⟩,bm⟩;revert ad N Y E X h f M;refine eY bm ?_;intro c7 ad N Y E X h f M;refine eK ?_;refine AD (fun wz=>Ext ax wz) 13 (.pure 0 (.pure 1 (.pure 2 (.pure 3 (.pure 4 (.pure 5 (.pure 6 (.pure 7 (.pure 8 (.pure 9 (.pure 10 (.pure 11 (.pure 12 .tail))))))))))))) mixed Bo (Ab (Ab An)) ?_;intro bn ay _;have ai:(fun wz=>Ext ax wz) bn:=ay;simp only at ai;have br:=ad;have am:=N;have a1:=Y;have aq:=E;have ar:=h;have af:=f;have ah:=M;revert ad N Y E X h f M;refine eY ay ?_;intro c8 ad N Y E X h f M;refine ⟨ai,?_⟩;refine Tq rfl Mv (Tq rfl V3 (Tq rfl Mv (eN rfl (AV Ac rfl rfl rfl) (eN rfl (AA Ac rfl rfl rfl (fun wz hz=>cI (cL am hz) rfl)) (eN rfl (CX Ac rfl rfl) (eN rfl (AV Ac rfl rfl rfl) (eN rfl (AA Ac rfl rfl rfl (fun wz hz=>cI (cL a1 hz) rfl)) (eN rfl (BJ rfl) (eN rfl (Be Ac rfl rfl rfl rfl Aa Aa) (eN rfl (AV Ac rfl rfl rfl) (eN rfl (AA Ac rfl rfl rfl (fun wz hz=>Row.at (dF ah hz) rfl)) ?_)))))))))));refine eN rfl (CX Ac rfl rfl) ?_;refine AE rfl ?_;refine eK ?_;refine xR ?_
     all_goals exact ⟨rfl,X⟩
structure FS (c fb m:Nat) (w:wD) (v:Value):Prop where
 cell:Blk w fb [v]
 own:OwnQ (He 4) w (fun _=>False) c 150 v (aT m ())
 ne:v.ownBlock≠some fb
 le:c<=w.heap.size
structure Eff (fb:Nat) (w:wD) (v:Value) (w':wD) (v':Value):Prop where
 fr:Fr (fun k=>k=fb\/v.ownBlock=some k) w w'
 new : ∀g,v'.ownBlock=some g->v.ownBlock=some g\/w.heap.size<=g
def Eff.of_ext {fb:Nat} {w w':wD} {v:Value} (x:Ext w w'):Eff fb w v w' v:=⟨⟨x.os,x.tape,x.output,x.size,fun _ f _=>x.block f⟩,fun _ h=>Z6 h⟩
def Eff.trans {fb:Nat} {w E F:wD} {v L v2:Value} (h:Eff fb w v E L) (k:Eff fb E L F v2):Eff fb w v F v2:=by
 have M:=h.fr.size;refine ⟨⟨k.fr.os.trans h.fr.os,k.fr.tape.trans h.fr.tape,k.fr.output.trans h.fr.output,bE M k.fr.size,fun i N f=>?_⟩,fun g O=>?_⟩
 . refine (k.fr.block i Aa (fun e=>?_)).trans (h.fr.block i N f);rcases e with e|e
   . exact f (Z6 e)
   . rcases h.new i e with e|e
     . exact f (aA e)
     . omega
 . rcases k.new g O with h1|h1
   . exact h.new g h1
   . exact aA Aa
def Kp (fb:Nat) (w:wD) (v:Value) (b:Nat):Prop:=b<w.heap.size/\b≠fb/\v.ownBlock≠some b
def Kp.eff {fb:Nat} {w w':wD} {v f:Value} {b:Nat} (h:Kp fb w v b) (k:Eff fb w v w' f):Kp fb w' f b:=by
 have:=k.fr.size;refine ⟨by have:=h.1;omega,h.2.1,fun e=>?_⟩;rcases k.new b e with e|e
 . exact h.2.2 e
 . have:=h.1;omega
def Kp.grow {fb:Nat} {w w':wD} {v:Value} {b:Nat} (h:Kp fb w v b) (f:w.heap.size<=w'.heap.size):Kp fb w' v b:=⟨Nat.lt_of_lt_of_le h.1 f,h.2⟩
def Kp.not {fb:Nat} {w:wD} {v:Value} {b:Nat} (h:Kp fb w v b) : ¬(b=fb\/v.ownBlock=some b):=fun e=>e.elim h.2.1 h.2.2
def FS.ext {c fb m:Nat} {w w':wD} {v:Value} (h:FS c fb m w v) (x:Ext w w'):FS c fb m w' v:=⟨h.cell.ext x,h.own.ext x,h.ne,bE h.le x.size⟩
instance {c fb m:Nat} {w w':wD} {v:Value}:LfE w w' (FS c fb m w v) (FS c fb m w' v):=⟨fun x h=>Bk.FS.ext h x⟩
def FS.fr {c fb m:Nat} {S:nP} {w w':wD} {v:Value} (h:FS c fb m w v) (x:Fr S w w') (f : ∀k,S k->k≠fb/\v.ownBlock≠some k):FS c fb m w' v:=⟨h.cell.fr x (fun e=>(f _ e).1 rfl),h.own.fr x (fun k E=>⟨id,(f k E).2⟩),h.ne,bE h.le x.size⟩
instance {c fb m:Nat} {S:nP} {w w':wD} {v:Value}:LfF S w w' (FS c fb m w v) (∀k,S k->k≠fb/\v.ownBlock≠some k) (FS c fb m w' v):=⟨fun x s h=>Bk.FS.fr h x s⟩
def RepR (c fb m:Nat) (w:wD) (v:Value):Ending->wD->Prop:=fun e w'=>e = .returned (.tuple #[]) /\ ∃v',FS c fb m w' v'/\Fr (fun k=>k=fb\/v.ownBlock=some k) w w' /\ ∀g,v'.ownBlock=some g->v.ownBlock=some g\/w.heap.size<=g
def RepR.ret {c fb m:Nat} {w:wD} {v:Value} {e:Ending} {w':wD} (h:RepR c fb m w v e w') : ∃v,e = .returned v:=⟨_,h.1⟩
def Hl (c fb m:Nat) (v:Value) (p Y:Int) (s:lB) (S:nP) (pa:oA) (pn pc:Nat) (w:wD) (hm:m<=1000000000) (hn:pn<=1000000) (Z:PathAt S w pa pn pc) (hf:FS c fb m w v) :
 Calls prog 87 #[.int .i64 p,.slice pa pn pc,str s,.int .i64 Y,.pointer (some ⟨fb,0,none⟩)] w (RepR c fb (m+Qr Y) w v):=by
 obtain ⟨M,V,ac,hc⟩:=hf;have HC:=Z2 (fun (w:wD) (h:PathAt S w pa pn pc)=>h.clone hn);have X:=cB w;by_cases he:Y=0
 . subst he;have e0:m+Qr 0=m:=rfl;rw [e0];refine Ad func87 ntmps87 rfl rfl ?_;refine cS (C1 Mv (C1 V2 (cT (VQ (Am (Cb rfl ?_))))));exact ⟨rfl,v,⟨M,V,ac,by have:=X.size;omega⟩,(Eff.of_ext X).fr,fun _ h=>Z6 h⟩
 . have e1:Qr Y=1:=AC he;rw [e1];have ad : ∀g,v.ownBlock=some g->g<w.heap.size/\g≠fb:=fun g hg=>⟨V.lt hg,fun e=>ac (e▸hg)⟩
   have a2:=M.lt;have ae:aT m ()++[()]=aT (m+1) ():=by rw [List.replicate_succ']
   have ak:(aT m ()).length<=1000000000:=by simp;omega
   have N:=cU (fun k=>k=fb\/v.ownBlock=some k) w;refine Ad func87 ntmps87 rfl rfl ?_;refine eK ?_;refine AD (fun wz=>Ext w wz) 8 (.pure 0 (.pure 1 (.pure 2 (.pure 4 (.pure 5 (.fork 3 (.pure 6 (.fork 7 .tail .none)) .none)))))) mixed Bo An ?_;intro ai af _;have f:(fun wz=>Ext w wz) ai:=af;simp only at f;have al:=Z;have am:=M;have an:=V;revert Z M V X N;refine eY af ?_;intro a3 Z M V X N;refine ⟨f,?_⟩;refine eT ?_;refine tC rfl rfl (HC.out _ Ag) ?_;rintro _ a4 ⟨a5,⟨a6,⟨⟨⟩,aj⟩⟩⟩;revert f Z M V X N;refine eY aj ?_;intro ao f Z M V X N;refine ⟨f,?_⟩;refine Tq rfl (xB [_,_,_,_]) ?_;refine A1 rfl (xS [_,_,_,_]) rfl ?_ aFh A4;rintro _ ap ⟨aq,rfl,E,ar⟩;have F:=E.blk;have ag:=E.ext;have au:=E.pos;have av:=E.size;revert f Z M V X N;refine eE ag ?_;intro f Z M V X N;refine ⟨f,?_⟩;refine AE rfl ?_;refine Ax (I7 (R:=fun _=>False) (sh:=He 4) (z:=()) Ac Ci rfl rfl rfl rfl Bo rfl rfl rfl Ag (fun _ h=>by exact h) (cQ Ag) ⟨rfl,rfl⟩ Aa Aa) rfl ?_ aFh;rintro _ aw ⟨O,⟨ah,⟨rfl,⟨aa,⟨U,⟨ax,L⟩⟩⟩⟩⟩⟩;have ay:=L.size;have F:=cH F L (fun h=>by have:=ad _ h;omega);clear Z;have M:=cH M L (fun h=>by have:=ad _ h;omega);clear V;have N:=Fr.fr N L (fun k hk=>Z6 (aA hk));refine eS [_] M ?_;intro az a0 ab a1;clear M;have aa:=OwnQ.fr aa ab (fun k hk=>⟨id,fun e=>by (obtain rfl:=aI (show some O=some k from e);rcases U with h|h;have:=ad _ h;omega;omega)⟩);revert F N;refine eF ab ?_;intro F N;refine Ai (Cb rfl ?_)
   have a7:=N.size;refine ⟨rfl,_,⟨Ag,by rw [<-ae];assumption,fun e=>?_,Aa⟩,N,fun g hg=>?_⟩
   . obtain rfl:=aI (show some O=some fb from e);rcases U with h|h
     . exact ac h
     . omega
   obtain rfl:=aI (show some O=some g from hg);rcases U with h|h
   . exact Z6 h
   . exact aA Aa
def U3 (c fb:Nat) (rf:FuncId) (ca:lV) (E:wD->Value->Prop):Prop:=
 (∀w v w' v',E w v->Eff fb w v w' v'->E w' v') /\
 ∀(m:Nat) (v:Value) (err:Int) (s:lB) (S:nP) (pa:oA) (pn pc:Nat) (w:wD),m<=1000000000->pn<=1000000->PathAt S w pa pn pc->FS c fb m w v->E w v ->
  Calls prog rf ([.slice pa pn pc,str s,.int .i64 err]++ca).toArray w (RepR c fb (m+Qr err) w v)
def Ly (fb:Nat):Value:=.func (.func 87) #[] #[.pointer (some ⟨fb,0,none⟩)]
def Tn (c fb E F:Nat) (i:Int):U3 c fb 92 [.pointer (some ⟨E,0,none⟩),.pointer (some ⟨F,0,none⟩)] (fun w v=>Blk w E [Ly fb]/\Blk w F [.int .i64 i]/\Kp fb w v E/\Kp fb w v F):=by
 refine ⟨fun w v w' v' ⟨h1,L,h3,M⟩ k=>⟨h1.fr k.fr h3.not,L.fr k.fr M.not,h3.eff k,M.eff k⟩,?_⟩;rintro m v f s S O U V w hm hn X Y ⟨h1,L,-,-⟩;have HR:=Z2 (Hl c fb m v i f s S O U V w hm hn X Y);unfold Ly at h1;clear X Y;show Calls prog 92 #[.slice O U V,str s,.int .i64 f,.pointer (some ⟨E,0,none⟩),.pointer (some ⟨F,0,none⟩)] w _;have N:=cU (fun k=>k=fb\/v.ownBlock=some k) w;refine Ad func92 ntmps92 rfl rfl ?_;refine eK ?_;refine Ax (BL (fi:=[]) (ca:=[.pointer (some ⟨fb,0,none⟩)]) Bo rfl rfl HR.out (fun _ _ h=>h.ret)) rfl ?_ aFh;rintro _ w5 ⟨⟨⟩,⟨aa,⟨L,⟨Z,M⟩⟩⟩⟩;have z6:=Z.size;have N:=Fr.fr N Z (fun k hk=>Z6 hk);refine Ai (Cb rfl ?_);exact ⟨rfl,_,Ag,N,Ag⟩
def To (c fb E F:Nat) (g:PG) (va:oA) (vc:Nat) (L:oA) (M:Nat) (ma:oA) (mc:Nat):U3 c fb 93 [.pointer (some ⟨E,0,none⟩),.pointer (some ⟨F,0,none⟩)] (fun w v=>Blk w E [Ly fb]/\Blk w F (g.cells va vc L M ma mc)/\Kp fb w v E/\Kp fb w v F):=by
 refine ⟨fun w v w' v' ⟨h1,N,h3,O⟩ k=>⟨h1.fr k.fr h3.not,N.fr k.fr O.not,h3.eff k,O.eff k⟩,?_⟩;rintro m v f s S V X Y w hm hn Z hf ⟨h1,N,-,-⟩;have HR:=Z2 (Hl c fb m v g.procs.length f s S V X Y w hm hn Z hf);unfold Ly at h1;clear Z hf;show Calls prog 93 #[.slice V X Y,str s,.int .i64 f,.pointer (some ⟨E,0,none⟩),.pointer (some ⟨F,0,none⟩)] w _;have U:=cU (fun k=>k=fb\/v.ownBlock=some k) w;refine Ad func93 ntmps93 rfl rfl ?_;refine eK ?_;refine Ax (BL (fi:=[]) (ca:=[.pointer (some ⟨fb,0,none⟩)]) Bo rfl rfl HR.out (fun _ _ h=>h.ret)) rfl ?_ aFh;rintro _ w5 ⟨⟨⟩,⟨aa,⟨N,⟨f3,O⟩⟩⟩⟩;have z6:=f3.size;have U:=Fr.fr U f3 (fun k hk=>Z6 hk);refine Ai (Cb rfl ?_);exact ⟨rfl,_,Ag,U,Ag⟩
def N8 (e:Int):Qr e<=1:=by unfold Qr;split<;>omega
def Lz (f:List PD) (v:List VD) (s:lB) (m:Nat) : ∀(l:List Nd) (i:Nat),FL f v s m i l<=l.length
 | [],_=>by simp [FL]
 | t::r,i=>by
  have:=N8 (OB f v s m i t.name);have:=Lz f v s m r (i+1);simp only [FL,Z1];omega
mutual
def Ra (ps:List PD) : ∀(t:Nd) (v:List VD),t.flt ps v<=t.size
 | .mk k n s l,v=>by
  have h1:=N8 (Dg ps v k s l.length);have h2:=Lz ps v s l.length l 0;have h3:=CQ l;have h4:=JM ps l v k s 0;simp only [Nd.flt,cE];split<;>omega
def JM (ps:List PD) : ∀(l:List Nd) (v:List VD) (k:Int) (s:lB) (i:Nat),Er ps v k s i l<=Ak l
 | [],_,_,_,_=>by simp [Er]
 | t::r,v,k,s,i=>by
  have:=Ra ps t (Dx k s i v);have:=JM ps r v k s (i+1);simp only [Er,Ak];omega
end
def Ki (f:List PD) (v:List VD) (k:Int) (s:lB) : ∀(l:List Nd) (j i:Nat) (h:j<l.length),Er f v k s i (l.take (j+1))=Er f v k s i (l.take j)+(l[j]).flt f (Dx k s (i+j) v)
 | t::r,0,i,_=>by simp [Er]
 | t::r,j+1,i,h=>by
  simp only [bQ,Er,Z5];rw [Ki f v k s r j (i+1) (by simpa using h)];rw [show i+1+j=i+(j+1) by omega];omega
def LA (f:List PD) (v:List VD) (s:lB) (m:Nat) : ∀(l:List Nd) (j i:Nat) (h:j<l.length),FL f v s m i (l.take (j+1))=FL f v s m i (l.take j)+Qr (OB f v s m (i+j) (l[j]).name)
 | t::r,0,i,_=>by simp [FL]
 | t::r,j+1,i,h=>by
  simp only [bQ,FL,Z5];rw [LA f v s m r j (i+1) (by simpa using h)];rw [show i+1+j=i+(j+1) by omega];omega
def Ip : ∀(l:List Nd) {j:Nat} (h:j<l.length),Ak (l.take j)+l[j].size<=Ak l
 | t::r,0,_=>by simp [Ak]
 | t::r,j+1,h=>by
  have:=Ip r (j:=j) (by simpa using h);simp only [bQ,Ak,Z5];omega
set_option maxHeartbeats 8000000 in
def PH (c fb:Nat) (dx:c<=fb) (rf:FuncId) (ca:lV) (bs:E6 prog rf=true) (E:wD->Value->Prop) (hR:U3 c fb rf ca E) (g:PG) (hg:g.procs.length<=1000000) (va:oA) (vc:Nat) (pa:oA) (pc:Nat) (ma:oA) (mc:Nat) (N:Nat) :
 ∀(t:Nd) (vs:List VD) (Sv Sp:nP) (ta:oA) (tc:Nat) (la:oA) (lc:Nat) (qa:oA) (qn qc:Nat) (w:wD) (v:Value) (m:Nat),t.size<N->vs.length+t.size<=1000000->qn+t.size<=1000000->m+t.size<=1000000000->t.sits (· < c) w ta->PDs (· < c) w g.procs pa->VDs Sv w vs la->vs.length<=lc->PathAt Sp w qa qn qc->(∀b,Sv b->Kp fb w v b)->(∀b,Sp b->Kp fb w v b)->FS c fb m w v->E w v ->
  Calls prog 91 #[.agg (g.cells va vc pa pc ma mc).toArray,t.val ta tc,.slice qa qn qc,.slice la vs.length lc,.func (.func rf) #[] ca.toArray] w (RepR c fb (m+t.flt g.procs vs) w v):=by
 induction N with
 | zero=>intro t vs Sv Sp ta tc la lc qa qn qc w v m h;omega
 | succ N ih=>
  rintro ⟨k,n,s,l⟩ vs Sv Sp ta tc la lc qa qn qc w v m hN co cp cq O f F bh L bi bj hF hE;have hz:(Nd.mk k n s l).size=1+Ak l:=by rw [cE]
  have c5:=CQ l;rw [hz] at hN co cp cq;have IH:=Z2 ih;have au:=Z2 hR.1;have bt:=Z2 hR.2;have ba : ∀b,Sv b -> ¬(b=fb\/v.ownBlock=some b):=fun b U=>(bi b U).not
  have bb : ∀b,Sp b -> ¬(b=fb\/v.ownBlock=some b):=fun b U=>(bj b U).not
  have al : ∀g,v.ownBlock=some g->c<=g/\g<w.heap.size:=fun g hg=>⟨hF.own.ge hg,hF.own.lt hg⟩
  have dy:=hF.cell.lt;have av:=Z2 bi;have a5:=Z2 bj;have bu:=Z2 (WX g hg k n s l ta tc vs Aa (· < c) Sv va vc pa pc ma mc la lc);have bc:=Z2 (fun (w':wD) (x:Ext w w') (p:PathAt Sp w' qa qn qc)=>bt.out m v (Dg g.procs vs k s l.length) s Sp qa qn qc w' Aa Aa p (hF.ext x) (au.out _ _ _ _ hE (Eff.of_ext x)));have bk:=Z2 hE;clear ih hR bi bj hE hF;have X:=cB w;have X2:=cU (fun k=>k=fb\/v.ownBlock=some k) w;have O:=EJ O;show Calls prog 91 #[.agg (g.cells va vc pa pc ma mc).toArray,.agg #[.int .u8 k,.int .i64 n,str s,.slice ta l.length tc],.slice qa qn qc,.slice la vs.length lc,.func (.func rf) #[] ca.toArray] w _;refine Ad func91 ntmps91 rfl rfl ?_;refine cS (eB [_,_,_,_,_,_] ?_);intro b1 w2 V x5 p6 z7;revert f F L X X2 O;refine eE x5 ?_;intro f F L X X2 O;refine eB [_,_,_,_] ?_;intro b8 w9 M cr dz d0;revert V f F L X X2 O;refine eE cr ?_;intro V f F L X X2 O;refine eK ?_;refine AD (fun wz=>Ext w9 wz) 8 (.pure 0 (.pure 1 (.pure 2 (.pure 3 (.pure 4 (.pure 5 (.pure 6 (.fork 7 .tail .none)))))))) mixed Bo (Ab An) ?_;intro ct bv _;have ah:(fun wz=>Ext w9 wz) ct:=bv;simp only at ah;have af:=M;have ai:=V;have aw:=f;have ax:=F;have ay:=L;have bd:=O;revert M V f F L X X2 O;refine eY bv ?_;intro d1 M V f F L X X2 O;refine ⟨ah,?_⟩;refine eT ?_;refine Tq rfl (xL [_,_,_,_,_,_] (fun wz hz=>(cL ai hz))) (Tq rfl (xL [_,_,_,_] (fun wz hz=>(cL af hz))) (Tq rfl Mv ?_));refine tC rfl rfl (bu.out _ Ag Ag) ?_;rintro _ d2 ⟨⟨⟩,cu⟩;revert ah M V f F L X X2 O;refine eY cu ?_;intro z22 ah M V f F L X X2 O;refine ⟨ah,?_⟩;refine AE rfl ?_;refine Ax (BL (fi:=[]) (ca:=ca) bs rfl rfl (bc.out _ Ag Ag) (fun _ _ h=>h.ret)) rfl ?_ aFh
  rintro _ a6 ⟨⟨⟩,⟨an,⟨a7,⟨aj,a8⟩⟩⟩⟩;have d3:=aj.size;have M:=cH M aj (fun h=>by (rcases h with h|h;omega;have:=al _ h;omega));have V:=cH V aj (fun h=>by (rcases h with h|h;omega;have:=al _ h;omega));have f:=PDs.fr f aj (fun b U h=>by (rcases h with h|h;omega;have:=al _ h;omega));have F:=dJ F aj (ba);have L:=PathAt.fr L aj (bb);have X2:=Fr.fr X2 aj (fun k hk=>Z6 hk);have O:=dO O aj (fun b U h=>by (rcases h with h|h;omega;have:=al _ h;omega));refine cT (Ah ?_);have e1:Eff fb w v a6 an:=⟨X2,fun g hg=>(a8 g hg).imp id fun h=>by omega⟩;have k1:Kp fb a6 an b1:=⟨V.lt,Aa,fun e=>by rcases a8 _ e with h|h;(have:=al _ h;omega);omega⟩;have k8:Kp fb a6 an b8:=⟨M.lt,Aa,fun e=>by rcases a8 _ e with h|h;(have:=al _ h;omega);omega⟩;have EE:=Z2 (au.out);have bw:=Z2 (au.out _ _ _ _ bk.out e1);have be:(Nd.mk k n s l).flt g.procs vs=Qr (Dg g.procs vs k s l.length)+(if k=50\/k=51 then FL g.procs vs s l.length 0 l else Er g.procs vs k s 0 l):=by rw [Nd.flt]
  rw [be];have d4:=N8 (Dg g.procs vs k s l.length);clear be;generalize Qr (Dg g.procs vs k s l.length)=m0 at *;clear bc bu ba bb al a8 X2;generalize an=v1 at *;refine KF (ι:=Unit) (fun _=>[(2,.slice qa qn qc),(3,.slice la vs.length lc),(4,.func (.func rf) #[] ca.toArray),(5,.pointer (some ⟨b1,0,none⟩)),(6,.pointer (some ⟨b8,0,none⟩)),(30,.bool (decide (k=50\/k=51)))]) (fun _ w'=>w'=a6) ?_ ?_
  . focus
     refine eK ?_;refine Dw rfl rfl rfl (fun cv=>?_) (fun cv=>?_);refine Qx (Qx (Qx (C1 T9 (Ai ?_))));rotate_left;refine Wf (C1 Pg (Wf (C1 (Pl M) (Wf (C1 V1 (C1 Ua (Ai ?_)))))));rotate_left
    all_goals exact CT () (Az rfl (Az rfl (Az rfl (Az rfl (Az rfl (BP rfl (congrArg Value.bool (by first|exact (decide_eq_true Aa).symm|exact decide_eq_decide.2 Aa)) Cj)))))) rfl
  rintro-w0 h;subst h;by_cases hk:k=50\/k=51
  . rw [AX hk];clear IH;refine KY (Ah (cS (C1 Pf (C1 (Pl M) (C1 Pz (C1 Mv (cT ?_)))))));refine At ?_;refine AK (ι:=Nat×Value) (fun x=>[(2,.slice qa qn qc),(3,.slice la vs.length lc),(4,.func (.func rf) #[] ca.toArray),(5,.pointer (some ⟨b1,0,none⟩)),(6,.pointer (some ⟨b8,0,none⟩)),(32,.slice ta l.length tc),(33,.int .i64 l.length),(34,.int .i64 x.1)])
     (fun x w'=>x.1<=l.length/\FS c fb (m+m0+FL g.procs vs s l.length 0 (l.take x.1)) w' x.2/\Eff fb w v w' x.2/\Kp fb w' x.2 b1/\Kp fb w' x.2 b8/\Blk w' b8 [.int .u8 k,.int .i64 n,str s,.slice ta l.length tc]/\Blk w' b1 (g.cells va vc pa pc ma mc)/\PDs (· < c) w' g.procs pa/\VDs Sv w' vs la/\PathAt Sp w' qa qn qc/\rowSits (· < c) w' l ta)
     (fun x=>l.length-x.1) (0,v1) sB ⟨aE _,a7,e1,k1,k8,M,V,f,F,L,O⟩ ?_
    clear a7 e1 k1 k8 M V f F L O bw;rintro ⟨j,vj⟩ w3 ⟨hj,hF,e3,k1,k8,M,V,f,F,L,O⟩;simp only at hj hF e3 k1 k8 M V f F L O;by_cases ag:j<l.length
    . have Y : ∀g,vj.ownBlock=some g->c<=g/\g<w3.heap.size/\g≠b1/\g≠b8:=fun g hg=>⟨hF.own.ge hg,hF.own.lt hg,fun e=>k1.2.2 (e▸hg),fun e=>k8.2.2 (e▸hg)⟩
      have az : ∀b,Sv b -> ¬(b=fb\/vj.ownBlock=some b):=fun b U=>((av.out b U).eff e3).not
      have a0 : ∀b,Sp b -> ¬(b=fb\/vj.ownBlock=some b):=fun b U=>((a5.out b U).eff e3).not
      have a1 : ∀b,Sv b->b<w3.heap.size:=fun b U=>((av.out b U).eff e3).1
      have a2 : ∀b,Sp b->b<w3.heap.size:=fun b U=>((a5.out b U).eff e3).1
      have bl:=k1.not;have bm:=k8.not;have cw:=k1.1;have cx:=k8.1;have bx:=hF.cell.lt;have bn:=Z2 (EE.out _ _ _ _ bk.out e3);have bz:=Lz g.procs vs s l.length (l.take j) 0;rw [bB] at bz;have am:=LA g.procs vs s l.length l j 0 ag;rw [Nat.zero_add] at am;obtain ⟨kb,ko,rfl,kS,ak⟩:=B1 O (by intro e;subst e;simp at ag);obtain ⟨xa,xc,rx,-⟩:=ak j l[j] (Z0 ag);have b0:=Z2 (PF g hg k n s l Aa j ag vs Aa);have a3:=Z2 (fun (w':wD) (x:Ext w3 w') (S:nP) (pa:oA) (pn pc:Nat) (hp:pn<=1000000) (p:PathAt S w' pa pn pc)=>bt.out (m+m0+FL g.procs vs s l.length 0 (l.take j)) vj (OB g.procs vs s l.length j l[j].name) l[j].name S pa pn pc w' Aa hp p (hF.ext x) (au.out _ _ _ _ bn.out (Eff.of_ext x)));have E3:=Z2 e3;clear ak hF e3;have a4:m+m0+FL g.procs vs s l.length 0 (l.take (j+1))=m+m0+FL g.procs vs s l.length 0 (l.take j)+Qr (OB g.procs vs s l.length j l[j].name):=by rw [am];omega
      rw [<-a4] at a3;clear am a4;generalize l[j]=x at *;generalize OB g.procs vs s l.length j x.name=ex at *;have X3:=cB w3;have X4:=cU (fun k=>k=fb\/vj.ownBlock=some k) w3;refine eK ?_;refine eA [_,_,_,_] ?_;intro d5 d6 cy cz d7 d8;revert V f F L M O rx X3 X4;refine eE cz ?_;intro V f F L M O rx X3 X4;refine C1 Pa (eS [_,_,_,_] cy ?_);intro b2 ad ao c6;revert V f;refine eF ao ?_;intro V f;have F:=dJ F ao (fun b U e=>by have:=a1 b U;omega);have L:=PathAt.fr L ao (fun b U e=>by have:=a2 b U;omega);revert M O rx X3 X4;refine eF ao ?_;intro M O rx X3 X4;refine cT (AD (fun wz=>Ext b2 wz) 11 (.pure 0 (.pure 1 (.pure 2 (.pure 4 (.pure 5 (.pure 6 (.pure 7 (.pure 8 (.pure 9 (.fork 3 (.fork 10 .tail .none) .none)))))))))) mixed Bo (Al (Ab (Ab (Al (Ab (Ab An)))))) ?_);intro b3 bf _;have Z:(fun wz=>Ext b2 wz) b3:=bf;simp only at Z;have cn:=ad;have ai:=V;have aw:=f;have ax:=F;have ay:=L;have af:=M;have bd:=O;have b4:=rx;revert ad V f F L M O rx X3 X4;refine eY bf ?_;intro c7 ad V f F L M O rx X3 X4;refine ⟨Z,?_⟩;refine eT ?_;refine Tq rfl (xL [_,_,_,_,_,_] (fun wz hz=>(cL ai hz))) (Tq rfl (xL [_,_,_,_] (fun wz hz=>(cL af hz))) (Tq rfl Mv (Tq rfl Mv ?_)));refine tC rfl rfl (Sd _ _ _ _ _ _ Aa Ag) ?_
      rintro _ c8 ⟨c9,⟨da,⟨⟨⟩,⟨ap,b5⟩⟩⟩⟩;revert Z ad V f F L M O rx X3 X4;refine eY b5 ?_;intro db Z ad V f F L M O rx X3 X4;refine ⟨Z,?_⟩;refine tC rfl rfl (b0.out _ _ _ _ _ _ _ _ _ _ _ _ _ _ Ag Ag Ag) ?_;rintro _ dc ⟨⟨⟩,b6⟩;revert ap Z ad V f F L M O rx X3 X4;refine eY b6 ?_;intro dd ap Z ad V f F L M O rx X3 X4;refine ⟨Z,?_⟩;refine AE rfl ?_;refine Ax (BL (fi:=[]) (ca:=ca) bs rfl rfl (a3.out _ Ag _ _ _ _ Aa Ag) (fun _ _ h=>h.ret)) rfl ?_ aFh;rintro _ b7 ⟨⟨⟩,⟨bo,⟨b9,⟨ac,cb⟩⟩⟩⟩;have de:=ac.size;have ap:=PathAt.fr ap ac (fun b U h=>by (rcases h with h|h;omega;have:=Y _ h;omega));have ad:=cH ad ac (fun h=>by (rcases h with h|h;omega;have:=Y _ h;omega));have V:=cH V ac (bl);have f:=PDs.fr f ac (fun b U h=>by (rcases h with h|h;omega;have:=Y _ h;omega));have F:=dJ F ac (az);have L:=PathAt.fr L ac (a0);have M:=cH M ac (bm);have O:=dO O ac (fun b U h=>by (rcases h with h|h;omega;have:=Y _ h;omega));clear rx;have X4:=Fr.fr X4 ac (fun k hk=>Z6 hk);refine Ai (Af (Ae (Aj (C1 V7 (C1 Mv (Ai ?_))))));have e4:Eff fb w3 vj b7 bo:=⟨X4,fun g hg=>(cb g hg).imp id fun h=>by omega⟩
      exact Ay (j+1,_) sB ⟨by simp only;omega,b9,E3.out.trans e4,k1.eff e4,k8.eff e4,M,V,f,F,L,O⟩ (by simp only;omega)
    . obtain rfl:j=l.length:=by omega
      rw [aH] at hF;refine eK ?_;refine VR rfl ?_;rw [<-Nat.add_assoc];exact ⟨rfl,vj,hF,e3.fr,e3.new⟩
  . rw [AC hk];refine Qw (Am (Ae (cS (C1 Pf (C1 (Pl M) (C1 Pz (C1 Mv (cT ?_))))))));refine At ?_;refine AK (ι:=Nat×Value) (fun x=>[(2,.slice qa qn qc),(3,.slice la vs.length lc),(4,.func (.func rf) #[] ca.toArray),(5,.pointer (some ⟨b1,0,none⟩)),(6,.pointer (some ⟨b8,0,none⟩)),(53,.slice ta l.length tc),(54,.int .i64 l.length),(55,.int .i64 x.1)])
     (fun x w'=>x.1<=l.length/\FS c fb (m+m0+Er g.procs vs k s 0 (l.take x.1)) w' x.2/\Eff fb w v w' x.2/\Kp fb w' x.2 b1/\Kp fb w' x.2 b8/\Blk w' b8 [.int .u8 k,.int .i64 n,str s,.slice ta l.length tc]/\Blk w' b1 (g.cells va vc pa pc ma mc)/\PDs (· < c) w' g.procs pa/\VDs Sv w' vs la/\PathAt Sp w' qa qn qc/\rowSits (· < c) w' l ta)
     (fun x=>l.length-x.1) (0,v1) sB ⟨aE _,a7,e1,k1,k8,M,V,f,F,L,O⟩ ?_
    clear a7 e1 k1 k8 M V f F L O bw;rintro ⟨j,vj⟩ w3 ⟨hj,hF,e3,k1,k8,M,V,f,F,L,O⟩;simp only at hj hF e3 k1 k8 M V f F L O;by_cases ag:j<l.length
    . have Y : ∀g,vj.ownBlock=some g->c<=g/\g<w3.heap.size/\g≠b1/\g≠b8:=fun g hg=>⟨hF.own.ge hg,hF.own.lt hg,fun e=>k1.2.2 (e▸hg),fun e=>k8.2.2 (e▸hg)⟩
      have az : ∀b,Sv b -> ¬(b=fb\/vj.ownBlock=some b):=fun b U=>((av.out b U).eff e3).not
      have a0 : ∀b,Sp b -> ¬(b=fb\/vj.ownBlock=some b):=fun b U=>((a5.out b U).eff e3).not
      have a1 : ∀b,Sv b->b<w3.heap.size:=fun b U=>((av.out b U).eff e3).1
      have a2 : ∀b,Sp b->b<w3.heap.size:=fun b U=>((a5.out b U).eff e3).1
      have bl:=k1.not;have bm:=k8.not;have cw:=k1.1;have cx:=k8.1;have bx:=hF.cell.lt;have df:=hF.le;have bn:=Z2 (EE.out _ _ _ _ bk.out e3);have d9:=JM g.procs (l.take j) vs k s 0;have am:=Ki g.procs vs k s l j 0 ag;rw [Nat.zero_add] at am;have ea:=Ip l ag;obtain ⟨kb,ko,rfl,kS,ak⟩:=B1 O (by intro e;subst e;simp at ag);obtain ⟨xa,xc,rx,sx⟩:=ak j l[j] (Z0 ag);have dg:(Dx k s j vs).length<=vs.length+1:=by unfold Dx;split<;>(try split)<;>simp
      have HV:=Z2 (fun (w':wD) (x:Ext w3 w') (bp bq:nP) (cc:oA) (cd:Nat) (ce:oA) (cf:Nat) (O:(l[j]).sits (· < c) w' xa) (f:PDs (· < c) w' g.procs pa) (F:VDs bp w' (Dx k s j vs) cc) (bh:(Dx k s j vs).length<=cd) (L:PathAt bq w' ce (qn+1) cf) (c0 : ∀b,bp b->Sv b\/(w3.heap.size<=b/\b<w'.heap.size)) (c1 : ∀b,bq b->w3.heap.size<=b/\b<w'.heap.size)=>
       IH.out l[j] (Dx k s j vs) bp bq xa xc cc cd ce (qn+1) cf w' vj (m+m0+Er g.procs vs k s 0 (l.take j)) Aa Aa Aa Aa O f F bh L
        (fun b U=>by
         rcases c0 b U with h|h
         . exact ((av.out b h).eff e3).eff (Eff.of_ext x)
         . exact ⟨h.2,Aa,fun e=>by have:=Y _ e;omega⟩)
        (fun b U=>by have h:=c1 b U;exact ⟨h.2,Aa,fun e=>by have:=Y _ e;omega⟩) (hF.ext x) (au.out _ _ _ _ bn.out (Eff.of_ext x)))
      have a4:m+m0+Er g.procs vs k s 0 (l.take (j+1))=m+m0+Er g.procs vs k s 0 (l.take j)+(l[j]).flt g.procs (Dx k s j vs):=by rw [am];omega
      rw [<-a4] at HV;have c2:=Z2 (WW k n s l (some ⟨kb,ko,none⟩) tc j vs Aa Sv la lc);have E3:=Z2 e3;clear ak hF e3 am a4;generalize Dx k s j vs=eb at *;generalize l[j]=x at *;have X3:=cB w3;have X4:=cU (fun k=>k=fb\/vj.ownBlock=some k) w3;refine eK ?_;refine eA [_,_,_,_] ?_;intro ec ed c3 c4 ee ef;revert V f F L M O rx sx X3 X4;refine eE c4 ?_;intro V f F L M O rx sx X3 X4;refine C1 Pa (eS [_,_,_,_] c3 ?_);intro cg ae aq dh;revert V f;refine eF aq ?_;intro V f;have F:=dJ F aq (fun b U e=>by have:=a1 b U;omega);have L:=PathAt.fr L aq (fun b U e=>by have:=a2 b U;omega);revert M O rx sx X3 X4;refine eF aq ?_;intro M O rx sx X3 X4;refine cT (AD (fun wz=>Ext cg wz) 10 (.pure 0 (.pure 1 (.pure 2 (.pure 3 (.pure 5 (.pure 6 (.pure 7 (.pure 9 (.fork 4 (.fork 8 .tail .none) .none))))))))) mixed Bo (Al (Ab (Ab (Al An)))) ?_);intro ch bg _;have aa:(fun wz=>Ext cg wz) ch:=bg;simp only at aa;have a9:=ae;have ai:=V;have aw:=f;have ax:=F;have ay:=L;have af:=M;have bd:=O;have b4:=rx;have di:=sx;revert ae V f F L M O rx sx X3 X4;refine eY bg ?_;intro dk ae V f F L M O rx sx X3 X4;refine ⟨aa,?_⟩;refine Tq rfl (xL [_,_,_,_,_,_] (fun wz hz=>(cL ai hz))) (Tq rfl (xL [_,_,_,_] (fun wz hz=>(cL a9 hz))) (Tq rfl Mv (Tq rfl Mv (Tq rfl (xL [_,_,_,_] (fun wz hz=>(cL af hz))) ?_))))
      refine eT ?_;refine tC rfl rfl (Sd _ _ _ _ _ _ Aa Ag) ?_;rintro _ dl ⟨dm,⟨dn,⟨⟨⟩,⟨ar,ci⟩⟩⟩⟩;revert aa ae V f F L M O rx sx X3 X4;refine eY ci ?_;intro dp aa ae V f F L M O rx sx X3 X4;refine ⟨aa,?_⟩;refine tC rfl rfl (c2.out _ bh Ag) ?_;rintro _ dq ⟨dr,⟨ds,⟨⟨⟩,⟨dt,⟨du,cj⟩⟩⟩⟩⟩;revert ar aa ae V f F L M O rx sx X3 X4;refine eY cj ?_;intro dv ar aa ae V f F L M O rx sx X3 X4;refine ⟨aa,?_⟩;refine AE rfl (cC rfl (HV.out _ Ag _ _ _ _ _ _ Ag Ag Ag Aa Ag (by (intro b U;rcases U with U|U;exact Z6 U;exact aA ⟨Aa,Aa⟩)) (by (intro b U;exact ⟨Aa,Aa⟩))) ?_);rintro _ ck ⟨⟨⟩,⟨br,⟨cl,⟨ab,cm⟩⟩⟩⟩;have dw:=ab.size;have ar:=PathAt.fr ar ab (fun b U h=>by (rcases h with h|h;omega;have:=Y _ h;omega));have ae:=cH ae ab (fun h=>by (rcases h with h|h;omega;have:=Y _ h;omega));have V:=cH V ab (bl);have f:=PDs.fr f ab (fun b U h=>by (rcases h with h|h;omega;have:=Y _ h;omega));have F:=dJ F ab (az);have L:=PathAt.fr L ab (a0);have M:=cH M ab (bm);have O:=dO O ab (fun b U h=>by (rcases h with h|h;omega;have:=Y _ h;omega));clear rx;have sx:=dD sx ab (fun b U h=>by (rcases h with h|h;omega;have:=Y _ h;omega));have X4:=Fr.fr X4 ab (fun k hk=>Z6 hk);refine Ai (Af (Ae (Aj (C1 V7 (C1 Mv (Ai ?_))))))
      have e4:Eff fb w3 vj ck br:=⟨X4,fun g hg=>(cm g hg).imp id fun h=>by omega⟩
      exact Ay (j+1,_) sB ⟨by simp only;omega,cl,E3.out.trans e4,k1.eff e4,k8.eff e4,M,V,f,F,L,O⟩ (by simp only;omega)
    . obtain rfl:j=l.length:=by omega
      rw [aH] at hF;refine cS (C1 V3 (cT (Ah (F5 (C3 (AG (AG (Bd (Cb rfl ?_)))))))));rw [<-Nat.add_assoc];exact ⟨rfl,vj,hF,e3.fr,e3.new⟩
def Hm : ∀(l acc:List VD) (i:Nat) (h:i<l.length),CA acc (l.take (i+1))=CA acc (l.take i)+Qr (E7 (acc++l.take i) (l[i]).name)
 | v::r,acc,0,_=>by simp [CA]
 | v::r,acc,i+1,h=>by
  simp only [bQ,CA,Z5];rw [Hm r (acc++[v]) i (by simpa using h)];simp only [aW,List.singleton_append];omega
def Fl : ∀(l acc:List VD),CA acc l<=l.length
 | [],_=>by simp [CA]
 | v::r,acc=>by
  have:=N8 (E7 acc v.name);have:=Fl r (acc++[v]);simp only [CA,Z1];omega
def LB (ps:List PD) (i:Nat) (p:PD):Nat:=(if (Fs ps p.name).getD i<i then 1 else 0)+CA [] p.params+p.body.flt ps p.params
def Kj (f:List PD) : ∀(l:List PD) (i j:Nat) (h:j<l.length),Es f i (l.take (j+1))=Es f i (l.take j)+LB f (i+j) l[j]
 | p::r,i,0,_=>by simp [Es,LB]
 | p::r,i,j+1,h=>by
  simp only [bQ,Es,Z5];rw [Kj f r (i+1) j (by simpa using h)];rw [show i+1+j=i+(j+1) by omega];omega
def U4 {f:List PD} {i:Nat} (h:i<f.length):decide (Hk f (f[i]).name<(i:Int))=decide ((Fs f (f[i]).name).getD i<i):=by
 unfold Hk;cases hq:Fs f (f[i]).name with
 | none=>
  exfalso;unfold Fs at hq;rw [List.findIdx?_eq_none_iff] at hq;have:=hq f[i] (Z8 h);simp at this
 | some j=>simp
def VD.ok (v:VD):Bool:=Bc v.name&&if v.kind=1\/v.kind=3 then v.len==0 else if v.kind=2 then decide (1<=v.len)&&decide (v.len<=16) else false
def De (l:List VD):Bool:=l.all VD.ok
mutual
def Nd.lim:Nd->Int->Int->Bool×Int
 | .mk _ _ _ l,d,m=>if d=0\/m=0 then (false,m) else Cq l (d-1) (m-1)
def Cq:List Nd->Int->Int->Bool×Int
 | [],_,m=>(true,m)
 | t::r,d,m=>if (t.lim d m).1 then Cq r d (t.lim d m).2 else (false,(t.lim d m).2)
end
def DZ (t:Nd):Bool:=(t.lim 80 2000).1&&t.isBlock
def PD.ok (p:PD):Bool:=Bc p.name&&decide (p.params.length<=8)&&De p.params&&DZ p.body
def PG.ok (g:PG):Bool:=decide (g.vars.length<=32)&&decide (g.procs.length<=64)&&De g.vars&&g.procs.all PD.ok&&DZ g.main
end Bk
namespace Bk
open Go Go.RowKit Go.Proofs
structure VD.wf (v:VD):Prop where
 name:v.name.length<=9223372036854775807
 k0:0<=v.kind
 k1:v.kind<=255
 l0 : -9223372036854775808<=v.len
 l1:v.len<=9223372036854775807
def PI {l:List VD} {j:Nat} (h:j<l.length) (f:l[j].ok=false):De l=false:=by
 unfold De;rw [List.all_eq_false];exact ⟨l[j],Z8 h,by simp [f]⟩
def Rb {l:List VD} (h : ∀j (F:j<l.length),l[j].ok=true):De l=true:=by
 unfold De;rw [bR];intro x f;obtain ⟨i,E,rfl⟩:=List.mem_iff_getElem.1 f;exact h i E
def LC (l:List VD) (S:nP) (a:oA) (c:Nat) (w:wD) (hl:l.length<=9223372036854775807) (Z : ∀v∈l,v.wf) (hs:VDs S w l a) :
 Calls prog 85 #[.slice a l.length c] w fun e w'=>e = .returned (.bool (De l))/\Ext w w':=by
 refine Ad func85 ntmps85 rfl rfl ?_;refine eK ?_;refine AK (ι:=Nat) (fun j=>[(7,.int .i64 j),(6,.int .i64 l.length),(5,.slice a l.length c)]) (fun j w'=>Ext w w'/\j<=l.length /\ ∀i (M:i<l.length),i<j->l[i].ok=true) (fun j=>l.length-j) 0 sB ⟨cB _,Aa,Aa⟩ ?_;rintro j w1 ⟨x1,hj,N⟩;have Y:=Z2 N;clear N;by_cases U:j<l.length
 . obtain ⟨kb,ko,rfl,-,O⟩:=dI (hs.ext x1) Aa;have rx:Row w1 ⟨kb,ko+j*3,none⟩ l[j].cells:=O j l[j] (Z0 U);have wf:=Z l[j] (Z8 U);have aa:=wf.name;have HF:l[j].ok=false->De l=false:=PI U;have V:=Z2 HF;clear HF O;generalize hv:l[j]=v at *;have HE:=Z2 hv;clear hv;refine eK ?_;refine F2 Ci rfl rfl ?_;intro b2 w2 E;refine Hw Ac rfl rfl rfl rfl rfl rfl (E) rfl ?_;clear E w2;intro w2 E;have h2:=E.blk;have x2:=E.ext;refine eK ?_;refine cC rfl (GF v.name _ aa) ?_;rintro _ w3 ⟨⟨⟩,x3⟩;have h:Ext w w3:=(by refine cF ?_ Ag;refine cF ?_ Ag;assumption);have h3:=h2.ext x3;cases hnm:Bc v.name
   . try rw [hnm]
     refine C1 Pt (Ai (Ae (EV rfl (by rfl) ?_)));refine eK ?_;refine Bb results85 rfl ?_;exact ⟨AI (V.out (by simp [VD.ok,hnm])).symm,h⟩
   try rw [hnm]
   by_cases F:v.kind=1\/v.kind=3
   . by_cases h0:v.len=0
     . have f:v.ok=true:=by simp [VD.ok,hnm,F,h0]
       rcases F with F|F
       . refine C1 Pt (Ai (Ae (Fa rfl (by rfl) (Am (Ae (Ah (Aj (C1 Pf (C1 Jt (Ai (Ae ?_)))))))))));refine At (Ah (Ah (Aj (C1 V1 (C1 Pa (Ai (Ae (KY (Am (Ae (KY ?_)))))))))));refine Ah (Aj (C1 Pf (C1 Jt (C1 V2 (Ai (Ae (F5 (Am (Af (Af (Ae ?_)))))))))));refine Aj (C1 V7 (C1 Mv (Ai ?_)));refine Ay (j+1) sB ⟨h,Aa,fun i M X=>?_⟩ Aa;by_cases e:i=j
         . subst e;exact HE.out▸f
         . exact Y.out i M Aa
       . refine C1 Pt (Ai (Ae (Fa rfl (by rfl) (Am (Ae (Ah (Aj (C1 Pf (C1 Jt (Ai (Ae ?_)))))))))));refine At (Ah (Ah (Aj (C1 V1 (C1 Pa (Ai (Ae (F5 (Aj (C1 V1 (C1 Pa ?_)))))))))));refine Ai (Ae (KY (Ah (Aj (C1 Pf (C1 Jt (C1 V2 (Ai (Ae (F5 (Am ?_)))))))))));refine Af (Af (Ae (Aj (C1 V7 (C1 Mv (Ai ?_))))));refine Ay (j+1) sB ⟨h,Aa,fun i M X=>?_⟩ Aa;by_cases e:i=j
         . subst e;exact HE.out▸f
         . exact Y.out i M Aa
     . have f:v.ok=false:=by simp [VD.ok,hnm,F,h0]
       rcases F with F|F
       . refine C1 Pt (Ai (Ae (Fa rfl (by rfl) ?_)));refine eK ?_;refine Bb results85 rfl ?_;exact ⟨AI (V.out f).symm,h⟩
       . refine C1 Pt (Ai (Ae (Fa rfl (by rfl) ?_)));refine eK ?_;refine Bb results85 rfl ?_;exact ⟨AI (V.out f).symm,h⟩
   . have ab:v.kind≠1:=fun e=>F (Z6 e)
     have ac:v.kind≠3:=fun e=>F (aA e)
     by_cases L:v.kind=2
     . by_cases ad:v.len<1
       . have f:v.ok=false:=by simp [VD.ok,hnm,L];omega
         refine C1 Pt (Ai (Ae (Fa rfl (by rfl) (Am (Ae (Ah (Aj (C1 Pf (C1 Jt (Ai (Ae ?_)))))))))));refine At (Ah (Ah (Aj (C1 V1 (C1 Pa (Ai (Ae (Qw (Aj (C1 V1 (C1 Pa ?_)))))))))));refine Ai (Ae (Qw (Ah (Aj (C1 V1 (C1 Pa (Ai (Ae (KY (Ah (Aj ?_)))))))))));refine C1 Pf (C1 Jt (C1 V3 (C1 Mv (Bx rfl rfl rfl Ag rfl (Bx rfl rfl rfl Ag rfl (Bx rfl rfl rfl Ag rfl (C1 T9 (Ai (Ae (EV rfl (by rfl) ?_))))))))));refine eK ?_;refine Bb results85 rfl ?_;exact ⟨AI (V.out f).symm,h⟩
       . by_cases ae:16<v.len
         . have f:v.ok=false:=by simp [VD.ok,hnm,L];omega
           refine C1 Pt (Ai (Ae (Fa rfl (by rfl) (Am (Ae (Ah (Aj (C1 Pf (C1 Jt (Ai (Ae ?_)))))))))));refine At (Ah (Ah (Aj (C1 V1 (C1 Pa (Ai (Ae (Qw (Aj (C1 V1 (C1 Pa ?_)))))))))));refine Ai (Ae (Qw (Ah (Aj (C1 V1 (C1 Pa (Ai (Ae (KY (Ah (Aj ?_)))))))))));refine C1 Pf (C1 Jt (C1 V3 (C1 Mv (A8 rfl rfl rfl Ag (C1 Pf (A8 rfl rfl rfl Ag (C1 Jt (A8 rfl rfl rfl Ag ?_))))))));refine eK ?_;refine Bb results85 rfl ?_;exact ⟨AI (V.out f).symm,h⟩
         . have f:v.ok=true:=by simp [VD.ok,hnm,L];omega
           refine C1 Pt (Ai (Ae (Fa rfl (by rfl) (Am (Ae (Ah (Aj (C1 Pf (C1 Jt (Ai (Ae ?_)))))))))));refine At (Ah (Ah (Aj (C1 V1 (C1 Pa (Ai (Ae (Qw (Aj (C1 V1 (C1 Pa ?_)))))))))));refine Ai (Ae (Qw (Ah (Aj (C1 V1 (C1 Pa (Ai (Ae (KY (Ah (Aj ?_)))))))))));refine C1 Pf (C1 Jt (C1 V3 (C1 Mv (A8 rfl rfl rfl Ag (C1 Pf (A8 rfl rfl rfl Ag (C1 Jt (A8 rfl rfl rfl Ag (C1 V5 (C1 Ua (Ai ?_)))))))))));refine Ae (Qw (Am (Af (Af (Ae (Aj (C1 V7 (C1 Mv (Ai ?_)))))))));refine Ay (j+1) sB ⟨h,Aa,fun i M X=>?_⟩ Aa;by_cases e:i=j
           . subst e;exact HE.out▸f
           . exact Y.out i M Aa
     . have f:v.ok=false:=by simp [VD.ok,hnm,ab,L,ac]
       refine C1 Pt (Ai (Ae (Fa rfl (by rfl) ?_)));refine eK ?_;refine Bb results85 rfl ?_;exact ⟨AI (V.out f).symm,h⟩
 . refine eK ?_;refine Bb results85 rfl ?_;exact ⟨AI (Rb (fun i M=>Y.out i M Aa)).symm,x1⟩
mutual
def JN : ∀(t:Nd) (d m:Int),0<=m->0<=(t.lim d m).2/\(t.lim d m).2<=m
 | .mk _ _ s l,d,m,hm=>by
  simp only [Nd.lim];split
  . exact ⟨hm,Int.le_refl _⟩
  . have:=M2 l (d-1) (m-1) Aa;omega
def M2 : ∀(l:List Nd) (d m:Int),0<=m->0<=(Cq l d m).2/\(Cq l d m).2<=m
 | [],d,m,hm=>by simp only [Cq];omega
 | t::r,d,m,hm=>by
  have h1:=JN t d m hm;simp only [Cq];split
  . have:=M2 r d (t.lim d m).2 h1.1;omega
  . omega
end
def PJ (l:List Nd) (j:Nat) (h:j<l.length) (d m:Int):Cq (l.drop j) d m=if (l[j].lim d m).1 then Cq (l.drop (j+1)) d (l[j].lim d m).2 else (false,(l[j].lim d m).2):=by
 rw [bD h,Cq]
def Tp (N:Nat) : ∀(t:Nd) (S:nP) (a:oA) (c:Nat) (d m:Int) (E:Nat) (w:wD),t.size<N->t.wf->0<=d->d<=1000000->0<=m->m<=1000000->t.sits S w a -> ¬S E->Blk w E [.int .i64 m] ->
 Calls prog 128 #[t.val a c,.int .i64 d,.pointer (some ⟨E,0,none⟩)] w fun e w'=>e = .returned (.bool (t.lim d m).1)/\Blk w' E [.int .i64 (t.lim d m).2]/\Fr (· = E) w w':=by
 induction N with
 | zero=>intro t S a c d m E w h;omega
 | succ N ih=>
  intro t S a c d m E w hN aa aq ar au av hs hS Z;have IH:=Z2 ih;clear ih;obtain ⟨k,n,s,l⟩:=t;simp only [Nd.wf,cE] at aa hN;simp only [Nd.val,Nd.kind,Nd.num,Nd.name,Nd.kids,Nd.lim];simp only [Nd.sits] at hs;obtain ⟨-,-,-,-,-,aw,ah⟩:=aa;have ap:=Z.lt;by_cases O:d=0\/m=0
  . rw [AX O];refine Ad func128 ntmps128 rfl rfl ?_;refine eK ?_;refine KQ rfl rfl rfl ?_;intro b1 w1 f;have h1:=f.blk;have x1:=f.ext;have V:=Z.ext x1;by_cases hd:d=0
    . refine C1 Pa (Ai (Ae (Ah (Ah (Aj (C1 Mv (C1 V1 (C1 Mv (Bx rfl rfl rfl Ag rfl (Bx rfl rfl rfl Ag rfl (Bx rfl rfl rfl Ag rfl ?_)))))))))));refine Bx rfl rfl rfl Ag rfl (C1 T9 (Ai (Ae (EV rfl (by rfl) ?_))));refine eK ?_;refine Bb results128 rfl ?_;exact ⟨rfl,V,.of_ext x1⟩
    . have hm:m=0:=by omega
      refine C1 Pa (Ai (Ae (Ah (Ah (Aj (C1 Mv (C1 V1 (C1 Mv (A8 rfl rfl rfl Ag (C1 Mv (A8 rfl rfl rfl Ag ?_)))))))))));refine C1 Pn (A8 rfl rfl rfl Ag (C1 Jt (A8 rfl rfl rfl Ag ?_)));refine eK ?_;refine Bb results128 rfl ?_;exact ⟨rfl,V,.of_ext x1⟩
  . rw [AC O];have hd:d≠0:=fun e=>O (Z6 e)
    have hm:m≠0:=fun e=>O (aA e)
    clear O;refine Ad func128 ntmps128 rfl rfl ?_;refine eK ?_;refine KQ rfl rfl rfl ?_;intro b1 w1 f;have h1:=f.blk;have x1:=f.ext;have p1:=f.pos;have V:=Z.ext x1;have ai:=hs.ext x1;refine C1 Pa (Ai (Ae (Ah (Ah (Aj (C1 Mv (C1 V1 (C1 Mv (A8 rfl rfl rfl Ag (C1 Mv (A8 rfl rfl rfl Ag ?_)))))))))));refine C1 Pn (A8 rfl rfl rfl Ag (C1 Jt (A8 rfl rfl rfl Ag (C1 V1 (C1 Ua (Ai (Ae (Qw (Am (Ae (Ah ?_)))))))))));refine Aj (C1 Mv (C1 Pn (C1 Jt (Ck (by exact Cw rfl rfl (aQ _ Aa)) rfl (C1 Pn (IJ Ac rfl rfl rfl rfl rfl rfl (V) rfl ?_))))));intro w2 F;have aj:Blk w2 E [.int .i64 (m-1)]:=F.blk;have h2:=h1.put F Aa;have ab:rowSits S w2 l a:=ai.fr F.fr (fun b Z e=>hS (e▸Z));have f2:Fr (· = E) w w2:=(Fr.of_ext x1).trans F.fr;have ax:w2.heap.size=b1+1:=by rw [F.size,f.size]
    clear F f;have ak:=Z2 ab;clear ab;refine eK ?_;refine AK (ι:=Nat) (fun x=>[(25,.int .i64 x),(24,.int .i64 l.length),(23,.slice a l.length c),(2,.pointer (some ⟨E,0,none⟩)),(1,.int .i64 d)]) (fun x w'=>Fr (· = E) w2 w'/\x<=l.length /\ ∃U,Blk w' E [.int .i64 U]/\0<=U/\U<=1000000/\Cq l (d-1) (m-1)=Cq (l.drop x) (d-1) U) (fun x=>l.length-x) 0 sB ⟨cU _ _,aE _,m-1,aj,Aa,Aa,rfl⟩ ?_;rintro j w3 ⟨f3,hj,U,ac,X,ad,ae⟩;have HR:=Z2 ae;clear ae;by_cases L:j<l.length
    . have al:rowSits S w3 l a:=ak.out.fr f3 (fun b Z e=>hS (e▸Z));obtain ⟨kb,ko,rfl,ay,Y⟩:=B1 al (by intro e;subst e;simp at L);obtain ⟨xa,xc,rx,sx⟩:=Y j l[j] (Z0 L);have am:=BO ah l[j] (Z8 L);have az:=D1 (Z8 L);have HD:=Z2 (PJ l j L (d-1) U);clear Y;generalize l[j]=x at *;have an:=JN x (d-1) U X;refine eK ?_;refine F2 Ci rfl rfl ?_;intro b4 w4 M;refine Hw Ac rfl rfl rfl rfl rfl rfl (M) rfl ?_;clear M w4;intro w4 M;have h4:=M.blk;have x4:=M.ext;have ao:=ac.ext x4;refine Ai (Ae (Ah (Aj ?_)));refine Ck (by exact BK Ac rfl rfl rfl (by exact fun wz hz=>by (try subst hz);exact (cQ Ag)) (by rfl)) rfl ?_;refine C1 Mv (Ck (by exact Cw rfl rfl (aQ _ Aa)) rfl (C1 Mv (cC rfl (IH.out x S xa xc (d-1) U E _ Aa am Aa Aa X ad (sx.ext x4) hS ao) ?_)));rintro _ w5 ⟨⟨⟩,af,f5⟩;have ag:Fr (· = E) w2 w5:=f3.trans ((Fr.of_ext x4).trans f5);cases O:(x.lim (d-1) U).1
      . try rw [O]
        refine C1 Pt (Ai (Ae (EV rfl (by rfl) ?_)));refine eK ?_;refine Bb results128 rfl ?_;rw [HR.out,HD.out,O];exact ⟨rfl,af,f2.trans ag⟩
      . try rw [O]
        refine C1 Pt (Ai (Ae (Fa rfl (by rfl) (Am (Af (Ae (Aj (C1 V7 (C1 Mv (Ai ?_))))))))));refine Ay (j+1) sB ⟨ag,Aa,(x.lim (d-1) U).2,af,an.1,Aa,?_⟩ Aa;rw [HR.out,HD.out,O];rfl
    . refine eK ?_;refine Bb results128 rfl ?_;have:l.drop j=[]:=List.drop_eq_nil_of_le Aa;rw [HR.out,this];exact ⟨rfl,ac,f2.trans f3⟩
def Ext.fr1 {a b c:wD} {f:Nat} (h:Ext a b) (k:Fr (· = f) b c) (F:a.heap.size<=f):Ext a c:=
 ⟨k.os.trans (Below.os h),k.tape.trans (Below.tape h),k.output.trans (Below.output h),bE h.size k.size,fun i E=>(k.block i (Nat.lt_of_lt_of_le E h.size) Aa).trans (h.block E)⟩
def U5 {S:nP} {w:wD} (t:Nd) (a:oA) (h:t.sits S w a):t.sits (fun b=>S b/\b<w.heap.size) w a:=by
 have key : ∀N:Nat,(∀(l:List Nd) (a:oA),Ak l<N->rowSits S w l a->rowSits (fun b=>S b/\b<w.heap.size) w l a):=by
  intro N
  induction N with
  | zero=>intro l a h;omega
  | succ N f=>
   intro l a E h;cases l with
   | nil=>simp [rowSits]
   | cons x r=>
    simp only [rowSits] at h ⊢;obtain ⟨b,o,F,c,rfl,O,L,h1,U,V,M,X⟩:=h;have Y:=Cr L;simp only [Ak] at E;have Z:=Nd.size_pos x;obtain ⟨k,n,s,l⟩:=x;simp only [cE] at E;refine ⟨b,o,F,c,rfl,⟨O,Y⟩,L,h1,U,V,?_,f r _ Aa X⟩;simp only [Nd.sits] at M ⊢;exact f l F Aa M
 obtain ⟨k,n,s,l⟩:=t;simp only [Nd.sits] at h ⊢;exact key (Ak l+1) l a Aa h
def PK (t:Nd) (S:nP) (a:oA) (c:Nat) (w:wD) (F:t.wf) (U:t.sits S w a) :
 Calls prog 86 #[t.val a c] w fun e w'=>e = .returned (.bool (DZ t))/\Ext w w':=by
 have L:=U5 t a U;refine Ad func86 ntmps86 rfl rfl ?_;refine eK ?_;refine KQ rfl rfl rfl ?_;intro b1 w1 E;have h1:=E.blk;have x1:=E.ext;have p1:=E.pos;have z1:=E.size;refine eK ?_;refine F2 Ci rfl rfl ?_;intro X M f;refine Hw Ac rfl rfl rfl rfl rfl rfl (f) rfl ?_;clear f M;intro M f;have Y:=f.ext;have Z:=h1.ext Y;have aa:=f.pos;refine Ai (Ae (Ah (Aj ?_)));refine Ck (by exact BK Ac rfl rfl rfl (by exact fun wz N=>by (try subst N);exact (cQ Ag)) (by rfl)) rfl ?_;refine cC rfl (Tp (t.size+1) t _ a c 80 2000 X _ Aa F Aa Aa Aa Aa (L.ext (by refine cF ?_ Ag;assumption)) (fun h=>by omega) f.blk) ?_;rintro _ w3 ⟨⟨⟩,-,V⟩;have O:Ext w w3:=Ext.fr1 (b:=M) (by refine cF ?_ Ag;assumption) V Aa;have h3:=Z.fr V Aa;cases hq:(t.lim 80 2000).1
 . try rw [hq]
   refine eK ?_;refine Bb results86 rfl ?_;exact ⟨AI (by simp [DZ,hq]),O⟩
 . try rw [hq]
   refine C1 Mv (Ba rfl rfl rfl (rfl) ?_);refine Ck (by exact BK Ac rfl rfl rfl (by exact fun wz N=>by (try subst N);exact (cQ Ag)) (by rfl)) rfl ?_;refine Ba rfl rfl rfl (rfl) (cC rfl (SW S t F a c _ (U.ext O)) ?_);rintro _ w4 ⟨⟨⟩,x4⟩;refine eK ?_;refine Bb results86 rfl ?_;exact ⟨AI (by simp [DZ,hq]),O.trans x4⟩
structure PD.wf (p:PD):Prop where
 name:p.name.length<=9223372036854775807
 len:p.params.length<=9223372036854775807
 params : ∀v∈p.params,v.wf
 body:p.body.wf
structure PG.wf (g:PG):Prop where
 nv:g.vars.length<=9223372036854775807
 np:g.procs.length<=9223372036854775807
 vars : ∀v∈g.vars,v.wf
 procs : ∀p∈g.procs,p.wf
 main:g.main.wf
def PL {l:List PD} {j:Nat} (h:j<l.length) (f:l[j].ok=false):l.all PD.ok=false:=by
 rw [List.all_eq_false];exact ⟨l[j],Z8 h,by simp [f]⟩
def Rc {l:List PD} (h : ∀j (F:j<l.length),l[j].ok=true):l.all PD.ok=true:=by
 rw [bR];intro x f;obtain ⟨i,E,rfl⟩:=List.mem_iff_getElem.1 f;exact h i E
def Se (g:PG) (S:nP) (va:oA) (vc:Nat) (Y:oA) (pc:Nat) (ma:oA) (mc:Nat) (w:wD) (f:g.wf) (hs:g.sits S w va Y ma) :
 Calls prog 48 #[.agg (g.cells va vc Y pc ma mc).toArray] w fun e w'=>e = .returned (.bool g.ok)/\Ext w w':=by
 have aa:=f.nv;have ag:=f.np;refine Ad func48 ntmps48 rfl rfl ?_;refine eK ?_;refine KQ rfl rfl rfl ?_;intro b1 w1 V;have h1:=V.blk;have Z:=V.ext;by_cases c1:32<g.vars.length
 . refine C1 Pa (Ai (Ae (Ah (Ah (Aj (C1 Pg (C1 Jt (C1 Pz (C1 V5 (C1 Mv (Bx rfl rfl rfl Aa rfl ?_)))))))))));refine Bx rfl rfl rfl Aa rfl (Bx rfl rfl rfl Aa rfl (Bx rfl rfl rfl Aa rfl (C1 RL (C1 Mv (A0 rfl rfl rfl (rfl) rfl (A0 rfl rfl rfl (rfl) rfl (A0 rfl rfl rfl (rfl) rfl (A0 rfl rfl rfl (rfl) rfl (C1 (BA rfl rfl rfl) (Ai (Ae ?_)))))))))));refine EV rfl (by rfl) ?_;refine eK ?_;refine Bb results48 rfl ?_;exact ⟨AI (by simp [PG.ok];omega),Z⟩
 by_cases c2:64<g.procs.length
 . refine C1 Pa (Ai (Ae (Ah (Ah (Aj (C1 Pg (C1 Jt (C1 Pz (C1 V5 (C1 Mv (A8 rfl rfl rfl Aa ?_)))))))))));refine C1 Pf (A8 rfl rfl rfl Aa (C1 Jt (A8 rfl rfl rfl Aa (C1 Pz (A8 rfl rfl rfl Aa (C1 V5 (C1 Mb (C1 Mv (Bx rfl rfl rfl Aa rfl (Bx rfl rfl rfl Aa rfl (Bx rfl rfl rfl Aa rfl ?_)))))))))));refine Bx rfl rfl rfl Aa rfl (C1 RL (Ai (Ae (EV rfl (by rfl) ?_))));refine eK ?_;refine Bb results48 rfl ?_;exact ⟨AI (by simp [PG.ok];omega),Z⟩
 refine C1 Pa (Ai (Ae (Ah (Ah (Aj (C1 Pg (C1 Jt (C1 Pz (C1 V5 (C1 Mv (A8 rfl rfl rfl Aa ?_)))))))))));refine C1 Pf (A8 rfl rfl rfl Aa (C1 Jt (A8 rfl rfl rfl Aa (C1 Pz (A8 rfl rfl rfl Aa (C1 V5 (C1 Mb (C1 Mv (A8 rfl rfl rfl Aa (C1 Pg (A8 rfl rfl rfl Aa ?_)))))))))));refine C1 Jt (A8 rfl rfl rfl Aa (cC rfl (LC g.vars S va vc _ aa f.vars (hs.vars.ext Z)) ?_));rintro _ w2 ⟨⟨⟩,x2⟩;cases hq:De g.vars
 . try rw [hq]
   refine A8 rfl rfl rfl Aa (C1 Pt (C1 Mb (Ai (Ae (EV rfl (by rfl) ?_)))));refine eK ?_;refine Bb results48 rfl ?_;exact ⟨AI (by simp [PG.ok,hq]),Z.trans x2⟩
 try rw [hq]
 have h2:=h1.ext x2;refine A8 rfl rfl rfl Aa (C1 Pt (C1 Mb (Ai (Ae (Fa rfl (by rfl) ?_)))));refine eK ?_;refine AK (ι:=Nat) (fun j=>[(24,.int .i64 j),(23,.int .i64 g.procs.length),(22,.slice Y g.procs.length pc),(1,.pointer (some ⟨b1,0,none⟩))]) (fun j w'=>Ext w2 w'/\j<=g.procs.length /\ ∀i (hi:i<g.procs.length),i<j->g.procs[i].ok=true) (fun j=>g.procs.length-j) 0 sB ⟨cB _,Aa,Aa⟩ ?_;rintro j w3 ⟨x3,hj,F⟩;have HA:=Z2 F;clear F;have E:Ext w w3:=(by refine cF ?_ Ag;refine cF ?_ Ag;assumption)
 by_cases O:j<g.procs.length
 . have ab:PDs S w3 g.procs Y:=hs.procs.ext E;obtain ⟨kb,ko,rfl,-,L⟩:=dI ab Aa;obtain ⟨qa,qc,ba,bc,rx,sv,sb⟩:=L j g.procs[j] (Z0 O);have wf:=f.procs g.procs[j] (Z8 O);have ac:=wf.name;have ad:=wf.len;have HN:=Z2 (PL O);clear L;generalize hv:g.procs[j]=p at *;have HE:=Z2 hv;clear hv;refine eK ?_;refine F2 Ci rfl rfl ?_;intro b4 w4 h;refine Hw Ac rfl rfl rfl rfl rfl rfl (h) rfl ?_;clear h w4;intro w4 h;have h4:=h.blk;have x4:=h.ext;refine eK ?_;refine cC rfl (GF p.name _ ac) ?_;rintro _ w5 ⟨⟨⟩,x5⟩;have U:Ext w w5:=E.trans (x4.trans x5);have M:Ext w3 w5:=x4.trans x5;have h5:=h4.ext x5;cases hnm:Bc p.name
   . try rw [hnm]
     refine C1 Pt (C1 Mv (A0 rfl rfl rfl (rfl) rfl (A0 rfl rfl rfl (rfl) rfl (A0 rfl rfl rfl (rfl) rfl (A0 rfl rfl rfl (rfl) rfl (C1 (BA rfl rfl rfl) (C1 Mv (A0 rfl rfl rfl (rfl) rfl (A0 rfl rfl rfl (rfl) rfl (A0 rfl rfl rfl (rfl) rfl (A0 rfl rfl rfl (rfl) rfl ?_)))))))))));refine C1 (BA rfl rfl rfl) (C1 Mv (A0 rfl rfl rfl (rfl) rfl (A0 rfl rfl rfl (rfl) rfl (A0 rfl rfl rfl (rfl) rfl (A0 rfl rfl rfl (rfl) rfl (C1 (BA rfl rfl rfl) (Ai (Ae (EV rfl (by rfl) ?_)))))))));refine eK ?_;refine Bb results48 rfl ?_;exact ⟨AI (by simp [PG.ok,HN.out (by simp [PD.ok,hnm])]),U⟩
   try rw [hnm]
   by_cases c3:8<p.params.length
   . refine C1 Pt (C1 Mv (Ba rfl rfl rfl (rfl) (C1 Pf (Ba rfl rfl rfl (rfl) (C1 Jt (Ba rfl rfl rfl (rfl) (C1 Pz (Ba rfl rfl rfl (rfl) (C1 V5 (C1 (BS rfl rfl rfl) (C1 Mv ?_)))))))))));refine Bx rfl rfl rfl Aa rfl (Bx rfl rfl rfl Aa rfl (Bx rfl rfl rfl Aa rfl (Bx rfl rfl rfl Aa rfl (C1 RL (C1 Mv (A0 rfl rfl rfl (rfl) rfl (A0 rfl rfl rfl (rfl) rfl (A0 rfl rfl rfl (rfl) rfl (A0 rfl rfl rfl (rfl) rfl (C1 (BA rfl rfl rfl) (Ai ?_)))))))))));refine Ae (EV rfl (by rfl) ?_);refine eK ?_;refine Bb results48 rfl ?_;exact ⟨AI (by simp [PG.ok,HN.out (by simp [PD.ok,hnm];omega)]),U⟩
   refine C1 Pt (C1 Mv (Ba rfl rfl rfl (rfl) (C1 Pf (Ba rfl rfl rfl (rfl) (C1 Jt (Ba rfl rfl rfl (rfl) (C1 Pz (Ba rfl rfl rfl (rfl) (C1 V5 (C1 (BS rfl rfl rfl) (C1 Mv ?_)))))))))));refine A8 rfl rfl rfl Aa (C1 Pf (A8 rfl rfl rfl Aa (C1 Jt (A8 rfl rfl rfl Aa (cC rfl (LC p.params S qa qc _ ad wf.params (sv.ext M)) ?_)))));rintro _ w6 ⟨⟨⟩,x6⟩;have X:Ext w w6:=U.trans x6;have N:Ext w3 w6:=M.trans x6;have h6:=h5.ext x6;cases hq2:De p.params
   . try rw [hq2]
     refine A8 rfl rfl rfl Aa (C1 Pt (C1 Mb (C1 Mv (A0 rfl rfl rfl (rfl) rfl (A0 rfl rfl rfl (rfl) rfl (A0 rfl rfl rfl (rfl) rfl (A0 rfl rfl rfl (rfl) rfl (C1 (BA rfl rfl rfl) (Ai (Ae (EV rfl (by rfl) ?_)))))))))));refine eK ?_;refine Bb results48 rfl ?_;exact ⟨AI (by simp [PG.ok,HN.out (by simp [PD.ok,hq2])]),X⟩
   try rw [hq2]
   refine A8 rfl rfl rfl Aa (C1 Pt (C1 Mb (C1 Mv (Ba rfl rfl rfl (rfl) (C1 Pf (Ba rfl rfl rfl (rfl) ?_))))));refine Ck (by exact Ds Ac rfl rfl rfl (by exact fun wz hz=>by (try subst hz);assumption) (by rfl)) rfl ?_;refine Ba rfl rfl rfl (rfl) (cC rfl (PK p.body S ba bc _ wf.body (sb.ext N)) ?_);rintro _ w7 ⟨⟨⟩,x7⟩;have ae:Ext w w7:=X.trans x7;cases hq3:DZ p.body
   . try rw [hq3]
     refine Ba rfl rfl rfl (rfl) (C1 Pt (C1 (BS rfl rfl rfl) (Ai (Ae (EV rfl (by rfl) ?_)))));refine eK ?_;refine Bb results48 rfl ?_;exact ⟨AI (by simp [PG.ok,HN.out (by simp [PD.ok,hq3])]),ae⟩
   try rw [hq3]
   have af:p.ok=true:=by simp [PD.ok,hnm,hq2,hq3];omega
   refine Ba rfl rfl rfl (rfl) (C1 Pt (C1 (BS rfl rfl rfl) (Ai (Ae (Fa rfl (by rfl) (Am (Af (Ae (Aj (C1 V7 (C1 Mv ?_)))))))))));refine Ai ?_;refine Ay (j+1) sB ⟨x3.trans (N.trans x7),Aa,fun i hi ah=>?_⟩ Aa;by_cases e:i=j
   . subst e;exact HE.out▸af
   . exact HA.out i hi Aa
 . have h3:=h2.ext x3;refine Ah (Aj (C1 V3 (Ai (Ae (Ah (F5 (C3 (AG (AG (Bd (Ae ?_)))))))))));refine Ah (Aj (C1 Pf ?_));refine Ck (by exact Ds Ac rfl rfl rfl (by exact fun wz hz=>by (try subst hz);assumption) (by rfl)) rfl ?_;refine cC rfl (PK g.main S ma mc _ f.main (hs.main.ext E)) ?_;rintro _ w4 ⟨⟨⟩,x4⟩;refine eK ?_;refine Bb results48 rfl ?_;refine ⟨AI ?_,E.trans x4⟩;have:=Rc (fun i hi=>HA.out i hi Aa);simp [PG.ok,hq,this];omega
def Jf : ∀l:List Nd,0<=AU l
 | []=>by simp [AU]
 | t::r=>by have:=Jf r;simp only [AU];omega
mutual
def Sf : ∀(t:Nd) (d m:Int),t.depth<=d->(t.size:Int)<=m->t.lim d m=(true,m-t.size)
 | .mk _ _ _ l,d,m,hd,hm=>by
  simp only [Nd.depth] at hd;simp only [cE] at hm;have h0:0<=AU l:=Jf l;unfold Nd.lim;rw [AC Aa,LD l (d-1) (m-1) Aa Aa];simp only [cE];congr 1;omega
def LD : ∀(l:List Nd) (d m:Int),AU l<=d->(Ak l:Int)<=m->Cq l d m=(true,m-Ak l)
 | [],d,m,_,_=>by simp [Cq,Ak]
 | t::r,d,m,hd,hm=>by
  simp only [AU] at hd;simp only [Ak] at hm;have h1:=Sf t d m Aa Aa;unfold Cq;rw [h1];simp only [if_true];rw [LD r d _ Aa Aa];simp only [Ak];congr 1;omega
end
mutual
def LE : ∀(t:Nd) (d m:Int),0<=d->(t.lim d m).1=true->t.depth<=d
 | .mk _ _ s l,d,m,hd,h=>by
  simp only [Nd.lim] at h;split at h
  . simp at h
  . have:=Iq l (d-1) (m-1) Aa h;simp only [Nd.depth];omega
def Iq : ∀(l:List Nd) (d m:Int),0<=d->(Cq l d m).1=true->AU l<=d
 | [],d,m,hd,_=>by simp only [AU];exact hd
 | t::r,d,m,hd,h=>by
  simp only [Cq] at h;split at h
  . rename_i ht;have h1:=LE t d m hd ht;have h2:=Iq r d _ hd h;simp only [AU];omega
  . simp at h
end
mutual
def M3 : ∀(t:Nd) (d m:Int),0<=m->(t.lim d m).1=true->(t.size:Int)+(t.lim d m).2<=m
 | .mk _ _ s l,d,m,hm,h=>by
  simp only [Nd.lim] at h ⊢;split at h
  . simp at h
  . rename_i hn;rw [AC hn];have:=Jg l (d-1) (m-1) Aa h;simp only [cE];omega
def Jg : ∀(l:List Nd) (d m:Int),0<=m->(Cq l d m).1=true->(Ak l:Int)+(Cq l d m).2<=m
 | [],d,m,hm,_=>by simp only [Cq,Ak];omega
 | t::r,d,m,hm,h=>by
  simp only [Cq] at h ⊢;split at h
  . rename_i ht;rw [AX ht];have h1:=M3 t d m hm ht;have h0:=JN t d m hm;have h2:=Jg r d (t.lim d m).2 h0.1 h;simp only [Ak];omega
  . simp at h
end
def body_iff {t:Nd}:DZ t=true↔t.isBlock=true/\t.depth<=80/\t.size<=2000:=by
 constructor
 . intro h;simp only [DZ,Z3] at h;have h1:=M3 t 80 2000 Aa h.1;have f:=JN t 80 2000 Aa;exact ⟨h.2,LE t 80 2000 Aa h.1,Aa⟩
 . rintro ⟨h1,f,E⟩;simp only [DZ,Z3];refine ⟨?_,h1⟩;rw [Sf t 80 2000 f Aa]
def Gm {g:PG} (h:g.ok=true):g.vars.length<=32/\g.procs.length<=64/\De g.vars=true/\(∀p∈g.procs,p.ok=true)/\DZ g.main=true:=by
 simp only [PG.ok,Z3,decide_eq_true_eq] at h;obtain ⟨⟨⟨⟨h1,f⟩,E⟩,F⟩,L⟩:=h;exact ⟨h1,f,E,bR.1 F,L⟩
def Fm {p:PD} (h:p.ok=true):Bc p.name=true/\p.params.length<=8/\De p.params=true/\DZ p.body=true:=by
 simp only [PD.ok,Z3,decide_eq_true_eq] at h;obtain ⟨⟨⟨h1,f⟩,E⟩,F⟩:=h;exact ⟨h1,f,E,F⟩
def PD.map (f:Nd->Nd) (p:PD):PD:=⟨p.name,p.params,f p.body⟩
def PG.inv (f:Nd->Nd) (q:Bool) (g:PG):PG:=⟨g.vars,g.procs.map (PD.map f),g.main.inv q⟩
def Tr {f:Nd->Nd} (q:Bool) {g:PG} (h:g.wf) (E:g.ok=true) (L : ∀p∈g.procs,(f p.body).wf):(g.inv f q).wf:=by
 obtain ⟨h1,O,U,V,M⟩:=Gm E;refine ⟨h.nv,by simpa [PG.inv] using h.np,h.vars,fun p N=>?_,(Ul q (g.main.size+1) g.main Aa (aA (body_iff.1 M).1)).wf h.main⟩;obtain ⟨x,F,rfl⟩:=List.mem_map.1 N;have:=h.procs x F;exact ⟨this.name,this.len,this.params,L x F⟩
def PM {f:Nd->Nd} (q:Bool) {g:PG} (hok:g.ok=true) (hf : ∀p∈g.procs,f (f p.body)=p.body):(g.inv f q).inv f q=g:=by
 obtain ⟨h1,h2,h3,h4,h5⟩:=Gm hok;have e1:=(Ul q (g.main.size+1) g.main Aa (aA (body_iff.1 h5).1)).back;obtain ⟨vs,ps,m⟩:=g;simp only [PG.inv,PG.mk.injEq,true_and];refine ⟨?_,e1⟩;rw [List.map_map]
 conv=>rhs;rw [<-List.map_id ps]
 refine List.map_congr_left fun p hp=>?_
 obtain ⟨a,b,c⟩:=p;simp only [Function.comp,PD.map,id,PD.mk.injEq,true_and];exact hf _ hp
def U6 {g:PG} (h:g.ok=true):g.main.isBlock=true:=(body_iff.1 (Gm h).2.2.2.2).1
attribute [local irreducible] Go.Calls
def Jh {g:PG} {b:Bool} (f:g.wf) (h:g.ok=b) (S:nP) (E:oA) (M:Nat) (F:oA) (N:Nat) (L:oA) (O:Nat) (w:wD) (U:g.sits S w E F L) :
 Calls prog 48 #[.agg (g.cells E M F N L O).toArray] w fun e w'=>e = .returned (.bool b)/\Ext w w':=by
 have:=Se g S E M F N L O w f U;rw [h] at this;exact this
def zeroPG:PG:=⟨[],[],BF⟩
def Kk {S:nP} {w:wD}:zeroPG.sits S w none none none:=⟨Z6 rfl,Z6 rfl,CI⟩
def PG.sits.ltA {S:nP} {w:wD} {g:PG} {f E F:oA} (h:g.sits S w f E F):g.sits (· < w.heap.size) w f E F:=⟨h.vars.lt2.wide fun _ h=>h.2,h.procs.ltA,G8 _ _ h.main⟩
def Rd (f:Nd->Nd) (l:List PD) (j:Nat) (h:j<l.length):(l.take (j+1)).map (PD.map f)=(l.take j).map (PD.map f)++[(l[j]).map f]:=by
 rw [aD h,List.map_append];rfl
def Kl (u:PG) (k:Int) (w:wD):Ending->wD->Prop:=fun e w'=> ∃va vc pa pc ma mc,e = .returned (.tuple #[.agg (u.cells va vc pa pc ma mc).toArray,.int .i64 k])/\u.sits (fun b=>w.heap.size<=b/\b<w'.heap.size) w' va pa ma/\PDsC (fun b=>w.heap.size<=b/\b<w'.heap.size) w' u.procs pa/\u.vars.length<=vc/\Ext w w'
def PDsC.lt2 {S:nP} {w:wD} {l:List PD} {a:oA} (h:PDsC S w l a):PDsC (fun b=>S b/\b<w.heap.size) w l a:=by
 rcases h with h|⟨b,o,h1,F,E⟩
 . exact Z6 h
 . cases l with
   | nil=>exact Z6 rfl
   | cons v r=>
    obtain ⟨_,_,_,_,f,-,-⟩:=E 0 v rfl;refine aA ⟨b,o,h1,⟨F,Cr (Row.at0 f rfl)⟩,fun i x L=>?_⟩;obtain ⟨M,N,O,U,f,V,X,Y⟩:=E i x L;exact ⟨M,N,O,U,f,V.lt2,F9 _ _ X,Y⟩
def U7 {f:Nd->Nd} {q:Bool} {g:PG} {w w':wD} {E F L:oA} {N O U M e:Nat} {xs:List PD} {V S2:nP} (Y:xs=g.procs.map (PD.map f)) (Z:VDs V w' g.vars E) (hc:g.vars.length<=N) (ho:OwnL E0 w' M e (.slice F xs.length O) xs) (hm:(g.main.inv q).sits S2 w' L) (X:Ext w w') (k1 : ∀b,V b->w.heap.size<=b) (k2 : ∀b,S2 b->w.heap.size<=b) (kM:w.heap.size<=M) :
 Kl (g.inv f q) 0 w (.returned (.tuple #[.agg #[.slice E g.vars.length N,.slice F xs.length O,.int .u8 (g.main.inv q).kind,.int .i64 (g.main.inv q).num,str (g.main.inv q).name,.slice L (g.main.inv q).kids.length U],.int .i64 0])) w':=by
 subst Y;have h1:=PDsC.wide (PDsC.lt2 (ho.pdsC (S:=fun b=>M<=b) (fun b hb=>hb))) (S':=fun b=>w.heap.size<=b/\b<w'.heap.size) fun b h=>⟨Aa,h.2⟩
 exact ⟨E,N,F,O,L,U,rfl,⟨Z.lt2.wide fun b h=>⟨k1 b h.1,h.2⟩,h1.pds,cJ (F9 _ _ hm) fun b h=>⟨k2 b h.1,h.2⟩⟩,h1,hc,X⟩
def Re (q:Bool) (al:Nat) (f:Nd->Nd) (b3:E6 prog al=true) (g:PG) (a5:g.wf) (a6:g.ok=true) (hf:g.few) (hm:g.main.isBlock=true)
 (HB : ∀p∈g.procs,∀(S:nP) (a:oA) (c:Nat) (w:wD),p.body.sits S w a->Calls prog al #[p.body.val a c] w (CopyR (f p.body) w))
 (S:nP) (va:oA) (vc:Nat) (pa:oA) (pc:Nat) (ma:oA) (mc:Nat) (w:wD) (hs:g.sits S w va pa ma) :
 Calls prog 51 #[.agg (g.cells va vc pa pc ma mc).toArray,.func (.func al) #[] #[],.bool q] w (Kl (g.inv f q) 0 w):=by
 have X:=cB w;obtain ⟨nv,np,b4,a7⟩:=hf;have HV:=Z2 (Jh a5 a6);have HI:=Z2 (UX q g.main b4 (aA hm));have HC:=Z2 (MP g.vars Aa);have HP:=Z2 HB;have HQ:=Z2 a7;clear a5 a6 hm HB a7;have hs:=hs.ltA;refine Ad func51 ntmps51 rfl rfl ?_;refine cS (eB [_,_,_,_,_,_] ?_);intro b1 w2 h4 x5 p6 z7;revert X hs;refine eE x5 ?_;intro X hs;refine eA [_,_,_,_,_,_] ?_;intro b8 w9 F b5 ef eg;revert h4 X hs;refine eE b5 ?_;intro h4 X hs;refine eK ?_;refine cC rfl (HV.out _ _ _ _ _ _ _ _ Ag) ?_;rintro _ a8 ⟨⟨⟩,b6⟩;revert F h4 X hs;refine eY b6 ?_;intro eh F h4 X hs;refine C1 Pt (cT (AR rfl (Am (Ae ?_))));refine KF (ι:=Nat×oA×Nat×oA×Nat) (fun x=>[(1,.func (.func al) #[] #[]),(3,.pointer (some ⟨b1,0,none⟩)),(6,.pointer (some ⟨b8,0,none⟩)),(8,.pointer (some ⟨x.1,0,none⟩))])
  (fun x w'=>Blk w' x.1 [.slice x.2.1 g.vars.length x.2.2.1,.slice none 0 0,.int .u8 (g.main.inv q).kind,.int .i64 (g.main.inv q).num,str (g.main.inv q).name,.slice x.2.2.2.1 (g.main.inv q).kids.length x.2.2.2.2]/\VDs (fun b=>b8<b/\b≠x.1/\b<w'.heap.size) w' g.vars x.2.1/\(g.main.inv q).sits (fun b=>b8<b/\b≠x.1/\b<w'.heap.size) w' x.2.2.2.1/\b8<x.1/\x.1<w'.heap.size/\g.vars.length<=x.2.2.1 /\
   Blk w' b1 [.slice va g.vars.length vc,.slice pa g.procs.length pc,.int .u8 g.main.kind,.int .i64 g.main.num,str g.main.name,.slice ma g.main.kids.length mc]/\Blk w' b8 [.slice none 0 0,.slice none 0 0,.int .u8 0,.int .i64 0,str [],.slice none 0 0]/\g.sits (· < w.heap.size) w' va pa ma/\Ext w w') ?_ ?_
 . clear HP HQ HV;have hv:=hs.vars;have M:=hs.main
   focus
    refine AD (fun wz=>Ext a8 wz) 9 (.pure 0 (.pure 1 (.pure 3 (.pure 4 (.pure 5 (.fork 2 (.fork 6 (.pure 7 (.fork 8 .tail .none)) (.fork 8 (.fork 6 (.pure 7 .tail) .none) .none)) (.fork 8 (.fork 2 (.fork 6 (.pure 7 .tail) .none) .none) .none))))))) mixed Bo (Ab An) ?_;intro b7 a9 _;have E:(fun wz=>Ext a8 wz) b7:=a9;simp only at E;have b9:=F;have ba:=h4;have ck:=hs;have cl:=hv;have cb:=M;revert F h4 X hs hv M;refine eY a9 ?_;intro ei F h4 X hs hv M;refine ⟨E,?_⟩;refine eT ?_;refine Tq rfl (xL [_,_,_,_] (fun wz hz=>(cL ba hz))) (Tq rfl Mv ?_);refine A1 rfl (Bg Bo rfl (HC.out _ _ _ _ Ag) (fun _ _ h=>h.ret)) rfl ?_ aFh ?kra5;rintro _ cm ⟨ej,⟨ek,⟨⟨⟩,⟨aa,⟨cc,cn⟩⟩⟩⟩⟩;revert E F h4 X hs hv M;refine eY cc ?_;intro co E F h4 X hs hv M;refine ⟨E,?_⟩;refine A1 rfl (Bg Bo rfl (HI.out _ _ _ _ Ag) (fun _ _ h=>h.ret)) rfl ?_ aFh ?kra13;rintro _ cp ⟨cq,⟨cr,⟨⟨⟩,⟨ae,bb⟩⟩⟩⟩;revert aa E F h4 X hs hv M;refine eY bb ?_;intro ct aa E F h4 X hs hv M;refine ⟨E,?_⟩;refine Tq rfl (xB [_,_,_,_,_,_]) ?_;refine A1 rfl (CY Ci rfl) rfl ?_ aFh A4;rintro _ cu ⟨cv,rfl,af⟩;have ar:=af.blk;dsimp only at ar;have bc:=af.ext;have cw:=af.pos;have cx:=af.size;revert ae aa E F h4 X hs hv M;refine eE bc ?_;intro ae aa E F h4 X hs hv M;refine ⟨E,?_⟩;refine AE rfl (eS [_,_,_,_,_,_] ar ?_);intro cy cz bd c0;revert ae aa F h4 X hs hv M;refine eF bd ?_;intro ae aa F h4 X hs hv M;refine Ai ?_;rotate_left;refine A1 rfl (CY Ci rfl) rfl ?_ aFh A4;rintro _ c1 ⟨c2,rfl,ag⟩;have ah:=ag.blk;dsimp only at ah;have be:=ag.ext;have c3:=ag.pos;have c4:=ag.size;revert aa E F h4 X hs hv M;refine eE be ?_;intro aa E F h4 X hs hv M;refine ⟨E,?_⟩;refine tC rfl rfl (HI.out _ _ _ _ Ag) ?_;rintro _ c5 ⟨c6,⟨c7,⟨⟨⟩,⟨au,bf⟩⟩⟩⟩;revert ah aa E F h4 X hs hv M;refine eY bf ?_;intro c8 ah aa E F h4 X hs hv M;refine ⟨E,?_⟩;refine Tq rfl (xB [_,_,_,_,_,_]) ?_;refine AE rfl (eS [_,_,_,_,_,_] ah ?_);intro c9 da bg db;revert au aa F h4 X hs hv M;refine eF bg ?_
    intro au aa F h4 X hs hv M;refine Ai ?_;rotate_left;refine A1 rfl (CY Ci rfl) rfl ?_ aFh A4;rintro _ dc ⟨dd,rfl,ai⟩;have ac:=ai.blk;dsimp only at ac;have bh:=ai.ext;have de:=ai.pos;have df:=ai.size;revert E F h4 X hs hv M;refine eE bh ?_;intro E F h4 X hs hv M;refine ⟨E,?_⟩;refine tC rfl rfl (HC.out _ _ _ _ Ag) ?_;rintro _ dg ⟨dh,⟨di,⟨⟨⟩,⟨aj,⟨bi,dk⟩⟩⟩⟩⟩;revert ac E F h4 X hs hv M;refine eY bi ?_;intro dl ac E F h4 X hs hv M;refine ⟨E,?_⟩;refine tC rfl rfl (HI.out _ _ _ _ Ag) ?_;rintro _ dm ⟨dn,⟨dp,⟨⟨⟩,⟨av,bj⟩⟩⟩⟩;revert aj ac E F h4 X hs hv M;refine eY bj ?_;intro dq aj ac E F h4 X hs hv M;refine ⟨E,?_⟩;refine Tq rfl (xB [_,_,_,_,_,_]) ?_;refine AE rfl (eS [_,_,_,_,_,_] ac ?_);intro dr ds bk dt;revert av aj F h4 X hs hv M;refine eF bk ?_;intro av aj F h4 X hs hv M;refine Ai ?_;rotate_left
   . exact CT (_,_,_,_,_) sB ⟨Ag,VDs.wide Ag (fun b h=>⟨Aa,Aa,Aa⟩),cJ Ag (fun b h=>⟨Aa,Aa,Aa⟩),Aa,Aa,Ag,Ag,Ag,Ag,Ag⟩
   . exact CT (_,_,_,_,_) sB ⟨Ag,VDs.wide Ag (fun b h=>⟨Aa,Aa,Aa⟩),cJ Ag (fun b h=>⟨Aa,Aa,Aa⟩),Aa,Aa,Ag,Ag,Ag,Ag,Ag⟩
   . exact CT (_,_,_,_,_) sB ⟨Ag,VDs.wide Ag (fun b h=>⟨Aa,Aa,Aa⟩),cJ Ag (fun b h=>⟨Aa,Aa,Aa⟩),Aa,Aa,Ag,Ag,Ag,Ag,Ag⟩
 . clear h4 F hs X;rintro ⟨bq,bl,cd,bm,ce⟩ w1 ⟨V,O,U,o1,o2,bn,Y,Z,hs,X⟩;simp only at V O U o1 o2 bn;have hp:=hs.procs;have hz:=aC w1.heap.size;clear hs HV HI HC;refine Ah (cS (C1 Pf (C1 (Pl Y) (C1 Pz (C1 Mv (cT (At ?_)))))));refine AK (ι:=Nat×List PD×oA×Nat) (fun x=>[(1,.func (.func al) #[] #[]),(3,.pointer (some ⟨b1,0,none⟩)),(6,.pointer (some ⟨b8,0,none⟩)),(8,.pointer (some ⟨bq,0,none⟩)),(24,.slice pa g.procs.length pc),(25,.int .i64 g.procs.length),(26,.int .i64 x.1)])
    (fun x w'=>OwnL E0 w' w1.heap.size 90 (.slice x.2.2.1 x.2.1.length x.2.2.2) x.2.1/\x.2.1=(g.procs.take x.1).map (PD.map f)/\x.1<=g.procs.length/\Blk w' bq [.slice bl g.vars.length cd,.slice x.2.2.1 x.2.1.length x.2.2.2,.int .u8 (g.main.inv q).kind,.int .i64 (g.main.inv q).num,str (g.main.inv q).name,.slice bm (g.main.inv q).kids.length ce]/\VDs (fun b=>b8<b/\b≠bq/\b<w1.heap.size) w' g.vars bl/\(g.main.inv q).sits (fun b=>b8<b/\b≠bq/\b<w1.heap.size) w' bm /\
     Blk w' b1 [.slice va g.vars.length vc,.slice pa g.procs.length pc,.int .u8 g.main.kind,.int .i64 g.main.num,str g.main.name,.slice ma g.main.kids.length mc]/\Blk w' b8 [.slice none 0 0,.slice none 0 0,.int .u8 0,.int .i64 0,str [],.slice none 0 0]/\PDs (· < w.heap.size) w' g.procs pa/\Ext w w'/\w1.heap.size<=w'.heap.size)
    (fun x=>g.procs.length-x.1) (0,[],none,0) sB ⟨OwnL.nil,Bn,aE _,V,O,U,Y,Z,hp,X,hz⟩ ?_
   clear V O U Y Z hp X hz;rintro ⟨j,xs,ra,rc⟩ w3 ⟨L,am,hj,V,O,U,Y,Z,hp,X,hz⟩;simp only at L am hj V;have bo : ∀g',(bI ra xs.length rc).ownBlock=some g'->w1.heap.size<=g'/\g'<w3.heap.size:=fun g' h=>⟨L.ge h,L.lt h⟩
   have el:xs.length<=1000000:=by rw [am,List.length_map,bB];omega
   refine CW.sub (m:=[(1,.func (.func al) #[] #[]),(3,.pointer (some ⟨b1,0,none⟩)),(6,.pointer (some ⟨b8,0,none⟩)),(8,.pointer (some ⟨bq,0,none⟩)),(24,.slice pa g.procs.length pc),(25,.int .i64 g.procs.length),(26,.int .i64 (j:Int))]) ?_ sB;by_cases ap:j<g.procs.length
   . obtain ⟨kb,ko,rfl,kS,hk⟩:=dI hp Aa;obtain ⟨xa,xc,ya,yc,rx,vx,sx⟩:=hk j _ (Z0 ap);have HX:=Z2 (HP.out _ (Z8 ap));have em:=HQ.out _ (Z8 ap);have HC:=Z2 (MP g.procs[j].params Aa);have az:xs++[(g.procs[j]).map f]=(g.procs.take (j+1)).map (PD.map f):=by rw [am,Rd f _ j ap]
     clear hk HP HQ am;generalize g.procs[j]=x at *;refine eK ?_;refine xA [_,_,_,_,_,_] ?_;intro en eo cf;refine eI [_,_,_,_,_,_] cf ?_;intro bp ab cg ep eq;revert L V O U Z X Y hp rx vx sx;refine eE cg ?_;intro L V O U Z X Y hp rx vx sx;refine cT (AD (fun wz=>Ext bp wz) 13 (.pure 0 (.pure 1 (.pure 2 (.pure 3 (.pure 4 (.pure 5 (.pure 7 (.pure 8 (.pure 9 (.fork 6 (.fork 10 (.pure 11 (.fork 12 .tail .none)) .none) .none)))))))))) mixed Bo (Al (Ab (Ab (Al (Ab An))))) ?_);intro ch aw _;have N:(fun wz=>Ext bp wz) ch:=aw;simp only at N;have an:=ab;have aq:=L;have a0:=V;have a1:=O;have a2:=U;have a3:=Z;have a4:=Y;have br:=hp;have bs:=rx;have bt:=vx;have bu:=sx;revert ab L V O U Z X Y hp rx vx sx;refine eY aw ?_;intro du ab L V O U Z X Y hp rx vx sx;refine ⟨N,?_⟩;refine eT ?_;refine Tq rfl (xL [_,_,_,_] (fun wz hz=>(cL an hz))) ?_;refine tC rfl rfl (HC.out _ _ _ _ Ag) ?_;rintro _ dv ⟨dw,⟨dx,⟨⟨⟩,⟨ad,⟨bv,dy⟩⟩⟩⟩⟩;revert N ab L V O U Z X Y hp rx vx sx;refine eY bv ?_;intro dz N ab L V O U Z X Y hp rx vx sx;refine ⟨N,?_⟩;refine A1 rfl (BL (fi:=[]) (ca:=[]) b3 rfl rfl (HX.out _ _ _ _ Ag) (fun _ _ h=>h.ret)) rfl ?_ aFh A4;rintro _ d0 ⟨d1,⟨d2,⟨⟨⟩,⟨ao,bw⟩⟩⟩⟩;revert ad N ab L V O U Z X Y hp rx vx sx;refine eY bw ?_;intro d3 ad N ab L V O U Z X Y hp rx vx sx;refine ⟨N,?_⟩;refine Tq rfl (xB [_,_,_,_,_,_]) ?_;refine A1 rfl (xS [_,_,_,_,_,_]) rfl ?_ aFh A4;rintro _ d4 ⟨d5,rfl,ak,d6⟩;have bx:=ak.blk;have bz:=ak.ext;have d7:=ak.pos;have d8:=ak.size;revert ao ad N ab L V O U Z X Y hp rx vx sx;refine eE bz ?_;intro ao ad N ab L V O U Z X Y hp rx vx sx;refine ⟨N,?_⟩;clear an aq a0 a1 a2 a3 a4 br bs bt bu N;refine AE rfl ?_;refine Ax (IY (sh:=E0) (z:=x.map f) Ac Ci rfl rfl rfl rfl Bo rfl rfl rfl Ag (cQ Ag) ⟨_,_,_,_,rfl,VDs.wide Ag (fun b h=>⟨Aa,fun e=>by have:=bo _ e;omega⟩),cJ Ag (fun b h=>⟨Aa,fun e=>by have:=bo _ e;omega⟩),Ag⟩ Aa Aa) rfl ?_ aFh;rintro _ d9 ⟨ea,⟨b2,⟨rfl,⟨ax,ay⟩⟩⟩⟩
     have eb:=ay.size;clear bx ao ad ab L;revert V O U Z X Y hp rx vx sx;refine eF ay ?_;intro V O U Z X Y hp rx vx sx;refine C1 Pf (eV [_] [_,_,_,_,_,_] V ?_);intro ec ed b0 ee;clear V;revert ax O U Z X Y hp rx vx sx;refine eF b0 ?_;intro ax O U Z X Y hp rx vx sx;refine Ai (Af (Ae (Aj (C1 V7 (C1 Mv (Ai ?_))))));exact Ay (j+1,xs++[x.map f],some ⟨_,0,none⟩,_) sB ⟨Ag,az,by simp only;omega,Ag,O,U,Y,Z,hp,X,Aa⟩ (by simp only;omega)
   . have ci:j=g.procs.length:=by omega
     subst ci;rw [aH] at am;refine eK ?_;refine eS [_,_,_,_,_,_] Z ?_;intro er es cj et;revert L V O U Y hp X;refine eF cj ?_;intro L V O U Y hp X;refine C1 Pa (cT (AY ?_));refine E1 rfl Ac rfl rfl rfl Ag rfl rfl ?_;exact U7 am O bn L U X (fun b h=>by omega) (fun b h=>by omega) Aa
def KJ {g:PG} (h:g.ok=true):g.few:=by
 obtain ⟨h1,L,-,f,E⟩:=Gm h;obtain ⟨-,-,M⟩:=body_iff.1 E;refine ⟨Aa,Aa,Aa,fun p F=>?_⟩;obtain ⟨-,N,-,c4⟩:=Fm (f p F);obtain ⟨-,-,c3⟩:=body_iff.1 c4;exact ⟨Aa,Aa⟩
def PG.inv_id (q:Bool) (g:PG):g.inv id q=⟨g.vars,g.procs,g.main.inv q⟩:=by
 unfold PG.inv;congr 1
 conv=>rhs;rw [<-List.map_id g.procs]
 refine List.map_congr_left fun p _=>?_
 obtain ⟨a,b,c⟩:=p;rfl
def YA {g:PG} (h:g.wf) (f:g.ok=true) (S:nP) (E:oA) (N:Nat) (F:oA) (O:Nat) (L:oA) (U:Nat) (w:wD) (M:g.sits S w E F L) :
 Calls prog 51 #[.agg (g.cells E N F O L U).toArray,.func (.func 52) #[] #[],.bool false] w (Kl (g.inv id false) 0 w):=
 Re false 52 id Bo g h f (KJ f) (U6 f) (fun p V S a c w M=>NL p.body ((KJ f).procs p V).2 S a c w M) S E N F O L U w M
def M4 {u:PG} {k:Int} {w w':wD} {E f F:oA} {L U V M N:Nat} (O:u.sits (fun b=>M<=b/\b<N) w' E f F) (Y:PDsC (fun b=>M<=b/\b<N) w' u.procs f) (Z:u.vars.length<=L) (X:Ext w w') (hl:w.heap.size<=M) (hh:N<=w'.heap.size):Kl u k w (.returned (.tuple #[.agg #[.slice E u.vars.length L,.slice f u.procs.length U,.int .u8 u.main.kind,.int .i64 u.main.num,str u.main.name,.slice F u.main.kids.length V],.int .i64 k])) w':=
 ⟨E,L,f,U,F,V,rfl,⟨O.vars.wide fun b h=>by omega,PDs.wide O.procs fun b h=>by omega,cJ O.main fun b h=>by omega⟩,PDsC.wide Y fun b h=>by omega,Z,X⟩
def PN {k:Int} (u g:PG) (V : ∀(S:nP) (L:oA) (Y:Nat) (M:oA) (Z:Nat) (N:oA) (mc:Nat) (w:wD),g.sits S w L M N ->
      Calls prog 51 #[.agg (g.cells L Y M Z N mc).toArray,.func (.func 52) #[] #[],.bool false] w (Kl u k w))
 (S:nP) (L:oA) (Y:Nat) (M:oA) (Z:Nat) (N:oA) (mc:Nat) (w:wD) (f:g.sits S w L M N) :
 Calls prog 26 #[.agg (g.cells L Y M Z N mc).toArray] w (Kl u k w):=by
 have X:=cB w;have f:=f.ltA;have V:=Z2 V;refine Ad func26 ntmps26 rfl rfl ?_;refine cS (eB [_,_,_,_,_,_] ?_);intro b1 w2 F x5 p6 z7;revert X f;refine eE x5 ?_;intro X f;refine eA [_,_,_,_,_,_] ?_;intro b8 w9 E aa aj ak;revert F X f;refine eE aa ?_;intro F X f;refine eK ?_;refine Ax (Bg Bo rfl (V.out _ _ _ _ _ _ _ _ Ag) (fun _ _ ⟨_,_,_,_,_,_,h⟩=>⟨_,h.1⟩)) rfl ?_ aFh;rintro _ al ⟨ad,⟨ae,⟨af,⟨ag,⟨ah,⟨ai,⟨⟨⟩,⟨O,⟨U,⟨am,ab⟩⟩⟩⟩⟩⟩⟩⟩⟩⟩;revert E F X f;refine eY ab ?_;intro an E F X f;refine eK ?_;refine eS [_,_,_,_,_,_] E ?_;intro ao ap ac z31;revert O U F X f;refine eF ac ?_;intro O U F X f;refine C1 Pa (cT (AY ?_));refine E1 rfl Ac rfl rfl rfl Ag rfl rfl ?_;exact M4 Ag Ag Ag X Aa Aa
def Km {g:PG} (f:g.wf) (h:g.ok=true) (S:nP) (E:oA) (M:Nat) (F:oA) (N:Nat) (L:oA) (O:Nat) (w:wD) (U:g.sits S w E F L) :
 Calls prog 26 #[.agg (g.cells E M F N L O).toArray] w (Kl (g.inv id false) 0 w):=PN _ g (YA f h) S E M F N L O w U
def LenR (n:Nat) (w:wD):Ending->wD->Prop:=fun e w'=> ∃a c,e = .returned (.slice a n c)/\Ext w w'
def LenR.ret {n:Nat} {w:wD} {e:Ending} {w':wD} (h:LenR n w e w') : ∃v,e = .returned v:=by
 obtain ⟨_,_,h,-⟩:=h;exact ⟨_,h⟩
def VDs.take {S:nP} {w:wD} {l:List VD} {a:oA} (h:VDs S w l a) (i:Nat):VDs S w (l.take i) a:=by
 rcases h with h|⟨b,o,h1,E,F⟩
 . exact Z6 (by rw [h];simp)
 . refine aA ⟨b,o,h1,E,fun j v f=>F j v ?_⟩;rw [List.getElem?_take] at f;split at f
   . exact f
   . cases f
def JO (f:List PD) (K:Nat) : ∀(l:List PD) (i:Nat),(∀(i:Nat) (p:PD),p∈l->LB f i p<=K)->Es f i l<=l.length*K
 | [],_,_=>by simp [Es]
 | p::r,i,h=>by
  have h1:=h i p Bn;have F:=JO f K r (i+1) (fun i q E=>h i q (by simp [E]));unfold LB at h1;simp only [Es,Z1,Nat.add_mul];omega
def LF {fb:Nat} {w f w':wD} {v E:Value} (x:Fr (fun k=>k=fb\/v.ownBlock=some k) w w') (h : ∀g,E.ownBlock=some g->v.ownBlock=some g\/f.heap.size<=g) (L:w.heap.size<=f.heap.size):Eff fb w v w' E:=⟨x,fun g F=>(h g F).imp id fun h=>by omega⟩
def PO {w:wD} {b:Nat} {v:Value} (h:Blk w b [v]) (h1:dA v=true):PathAt (fun _=>True) w (some ⟨b,0,none⟩) 1 1:=⟨⟨aC _,fun e=>by cases e⟩,[v],rfl,by simp [h1],aA ⟨b,0,rfl,trivial,h.row⟩⟩
set_option maxHeartbeats 8000000 in
def PQ (g:PG) (cv:g.wf) (bv:g.ok=true) (S:nP) (va:oA) (vc:Nat) (pa:oA) (pc:Nat) (ma:oA) (mc:Nat) (w:wD) (hs:g.sits S w va pa ma) (f:PDsC S w g.procs pa) (cw:g.vars.length<=vc) :
 Calls prog 49 #[.agg (g.cells va vc pa pc ma mc).toArray] w (LenR g.flt w):=by
 have dp:=KJ bv;have HV:=Z2 (Jh cv bv);have E:=hs.vars.ltV;have L:=G8 _ _ hs.main;have f:=f.ltA;have hs:=hs.ltA;have X:=cB w;refine Ad func49 ntmps49 rfl rfl ?_;refine cS (eB [_,_,_,_,_,_] ?_);intro b1 w2 Y x5 p6 z7;revert E L f hs X;refine eE x5 ?_;intro E L f hs X;refine eK ?_;refine cC rfl (HV.out _ _ _ _ _ _ _ _ Ag) ?_;rintro _ w9 ⟨⟨⟩,x8⟩;revert Y E L f hs X;refine eY x8 ?_;intro e3 Y E L f hs X;refine eK ?_;refine eA [_] ?_;intro V e5 bk cx e6 e7;revert Y E L f hs X;refine eE cx ?_;intro Y E L f hs X;refine cN (C1 (EK rfl) (xA [_] ?_));intro ag e8 cy;refine eI [_] cy ?_;intro bw N cz e9 fa;revert bk Y E L f hs X;refine eE cz ?_;intro bk Y E L f hs X;refine cT (Ah (cS (C1 Pg (C1 (Pl Y) (C1 Pz (C1 Mv (cT ?_)))))));obtain ⟨o1,o2,-,o4,o5⟩:=Gm bv;have b6:FS w.heap.size V 0 bw (.slice none 0 0):=⟨bk,OwnQ.nil,by simp [bH],Aa⟩;have k1:Kp V bw (.slice none 0 0) b1:=⟨Aa,Aa,by simp [bH]⟩;have kR:Kp V bw (.slice none 0 0) ag:=⟨Aa,Aa,by simp [bH]⟩;refine At ?_;refine AK (ι:=Nat×Value) (fun x=>[(1,.pointer (some ⟨b1,0,none⟩)),(3,.pointer (some ⟨V,0,none⟩)),(4,.pointer (some ⟨ag,0,none⟩)),(16,.slice va g.vars.length vc),(17,.int .i64 g.vars.length),(18,.int .i64 x.1)])
  (fun x w'=>x.1<=g.vars.length/\FS w.heap.size V (CA [] (g.vars.take x.1)) w' x.2/\Kp V w' x.2 b1/\Kp V w' x.2 ag/\Blk w' ag [Ly V]/\Blk w' b1 (g.cells va vc pa pc ma mc)/\VDs (· < w.heap.size) w' g.vars va/\g.main.sits (· < w.heap.size) w' ma/\PDsC (· < w.heap.size) w' g.procs pa/\Ext w w')
  (fun x=>g.vars.length-x.1) (0,.slice none 0 0) sB ⟨aE _,b6,k1,kR,N,Y,E,L,f,X⟩ ?_
 clear b6 k1 kR N Y E L f X bk hs;rintro ⟨j,vj⟩ w3 ⟨hj,hF,k1,kR,N,Y,E,L,f,X⟩;simp only at hj hF k1 kR N Y E L f X;by_cases ap:j<g.vars.length
 . have F : ∀q,vj.ownBlock=some q->w.heap.size<=q/\q<w3.heap.size/\q≠b1/\q≠ag:=fun q hq=>⟨hF.own.ge hq,hF.own.lt hq,fun e=>k1.2.2 (e▸hq),fun e=>kR.2.2 (e▸hq)⟩
   have av:=k1.not;have aw:=kR.not;have bl:=k1.1;have bm:=kR.1;have a8:=hF.cell.lt;have b7:=X.size;obtain ⟨kb,ko,rfl,kS,ao⟩:=E.get (by intro e;rw [e] at ap;simp at ap);have r0:=ao j g.vars[j] (Z0 ap);have bx:(g.vars.take j).length=j:=by simp;omega
   have b8:=Fl (g.vars.take j) [];have ac:=E.take j;have az:=Z2 (N7 (g.vars.take j) Aa g.vars[j].name);rw [bx] at az;have ax:=Hm g.vars [] j ap;rw [List.nil_append] at ax;have ai:=Z2 (fun (w':wD) (x:Ext w3 w') (S:nP) (qa:oA) (qn qc:Nat) (hq:qn<=1000000) (p:PathAt S w' qa qn qc)=>Hl w.heap.size V (CA [] (g.vars.take j)) vj (-1) (E7 (g.vars.take j) g.vars[j].name) g.vars[j].name S qa qn qc w' Aa hq p (hF.ext x));rw [<-ax] at ai;clear ao hF ax b8;have hm:(j:Int)=(j:Int):=rfl;generalize g.vars[j]=x at *;obtain ⟨xn,xk,xl⟩:=x;dsimp only at az ai;replace r0:Row w3 ⟨kb,ko+j*3,none⟩ [str xn,.int .u8 xk,.int .i64 xl]:=r0;generalize E7 (g.vars.take j) xn=ex at *;unfold Ly at N;have X3:=cB w3;have X4:=cU (fun k=>k=V\/vj.ownBlock=some k) w3
   focus
    refine eK ?_;refine eA [_,_,_] ?_;intro fc fd c0 c5 fe ff;revert N L f X Y E ac r0 X3 X4;refine eE c5 ?_;intro N L f X Y E ac r0 X3 X4;refine C1 Pa (eS [_,_,_] c0 ?_);intro b9 ae cb dq;revert N L f X Y E ac r0 X3 X4;refine eF cb ?_;intro N L f X Y E ac r0 X3 X4;refine cT (AD (fun wz=>Ext b9 wz) 12 (.pure 0 (.pure 1 (.pure 3 (.pure 4 (.pure 5 (.pure 6 (.pure 7 (.pure 8 (.pure 9 (.pure 10 (.fork 2 (.fork 11 .tail .none) (.fork 11 (.fork 2 .tail .none) .none)))))))))))) mixed Bo (Al (Ab (Ab (Al (Ab An))))) ?_);intro cc br _;have ad:(fun wz=>Ext b9 wz) cc:=br;simp only at ad;have bn:=ae;have a9:=N;have bb:=L;have bd:=f;have be:=Y;have bf:=E;have bz:=ac;have bs:=r0;revert ae N L f X Y E ac r0 X3 X4;refine eY br ?_;intro dr ae N L f X Y E ac r0 X3 X4;refine ⟨ad,?_⟩;refine eT ?_;refine Tq rfl (H7 Ac rfl rfl rfl rfl hm Aa) (Tq rfl Pg (Tq rfl (Db bn) ?_));refine A1 rfl (xS [_]) rfl ?_ aFh ?kra18;rintro _ ds ⟨dt,rfl,a5,du⟩;have a0:=a5.blk;dsimp only at a0;have cd:=a5.ext;have dv:=a5.pos;have dw:=a5.size;revert ad ae N L f X Y E ac r0 X3 X4;refine eE cd ?_;intro ad ae N L f X Y E ac r0 X3 X4;refine ⟨ad,?_⟩;refine tC rfl rfl (az.out _ _ _ _ ac) ?_;rintro _ dx ⟨⟨⟩,ce⟩;revert a0 ad ae N L f X Y E ac r0 X3 X4;refine eY ce ?_;intro dy a0 ad ae N L f X Y E ac r0 X3 X4;refine ⟨ad,?_⟩;refine AE rfl ?_;refine Ax (BL (fi:=[]) (ca:=[.pointer (some ⟨V,0,none⟩)]) Bo rfl rfl (ai.out _ Ag _ _ _ _ Aa (PO Ag rfl)) (fun _ _ h=>h.ret)) rfl ?_ aFh;rintro _ dz ⟨⟨⟩,⟨c6,⟨d0,⟨aj,d2⟩⟩⟩⟩;have d3:=aj.size;have a0:=cH a0 aj (fun h=>by (rcases h with h|h;omega;have:=F _ h;omega));have ae:=cH ae aj (fun h=>by (rcases h with h|h;omega;have:=F _ h;omega));have N:=cH N aj (aw);have L:=dD L aj (fun b hb h=>by (rcases h with h|h;omega;have:=F _ h;omega));have f:=PDsC.fr f aj (fun b hb h=>by (rcases h with h|h;omega;have:=F _ h;omega));have X:=dH X aj (fun k hk=>by (rcases hk with h|h;omega;have:=F _ h;omega));have Y:=cH Y aj (av);have E:=dJ E aj (fun b hb h=>by (rcases h with h|h;omega;have:=F _ h;omega))
    have ac:=dJ ac aj (fun b hb h=>by (rcases h with h|h;omega;have:=F _ h;omega));have X4:=Fr.fr X4 aj (fun k hk=>Z6 hk);refine Ai (Af (Ae (Aj (C1 V7 (C1 Mv (Ai ?_))))));rotate_left;refine tC rfl rfl (az.out _ _ _ _ ac) ?_;rintro _ d4 ⟨⟨⟩,cf⟩;revert ad ae N L f X Y E ac r0 X3 X4;refine eY cf ?_;intro d5 ad ae N L f X Y E ac r0 X3 X4;refine ⟨ad,?_⟩;refine A1 rfl (xS [_]) rfl ?_ aFh A4;rintro _ d6 ⟨d7,rfl,a6,d8⟩;have bg:=a6.blk;dsimp only at bg;have cg:=a6.ext;have d9:=a6.pos;have ea:=a6.size;revert ad ae N L f X Y E ac r0 X3 X4;refine eE cg ?_;intro ad ae N L f X Y E ac r0 X3 X4;refine ⟨ad,?_⟩;refine AE rfl ?_;refine Ax (BL (fi:=[]) (ca:=[.pointer (some ⟨V,0,none⟩)]) Bo rfl rfl (ai.out _ Ag _ _ _ _ Aa (PO Ag rfl)) (fun _ _ h=>h.ret)) rfl ?_ aFh;rintro _ eb ⟨⟨⟩,⟨c7,⟨ec,⟨ak,ed⟩⟩⟩⟩;have ee:=ak.size;have bg:=cH bg ak (fun h=>by (rcases h with h|h;omega;have:=F _ h;omega));have ae:=cH ae ak (fun h=>by (rcases h with h|h;omega;have:=F _ h;omega));have N:=cH N ak (aw);have L:=dD L ak (fun b hb h=>by (rcases h with h|h;omega;have:=F _ h;omega));have f:=PDsC.fr f ak (fun b hb h=>by (rcases h with h|h;omega;have:=F _ h;omega));have X:=dH X ak (fun k hk=>by (rcases hk with h|h;omega;have:=F _ h;omega));have Y:=cH Y ak (av);have E:=dJ E ak (fun b hb h=>by (rcases h with h|h;omega;have:=F _ h;omega));have ac:=dJ ac ak (fun b hb h=>by (rcases h with h|h;omega;have:=F _ h;omega));have X4:=Fr.fr X4 ak (fun k hk=>Z6 hk);refine Ai (Af (Ae (Aj (C1 V7 (C1 Mv (Ai ?_))))));rotate_left
   . have e4:=LF X4 Ag Aa;exact Ay (j+1,_) sB ⟨by simp only;omega,Ag,k1.eff e4,kR.eff e4,N,Y,E,L,f,X⟩ (by simp only;omega)
   . have e4:=LF X4 Ag Aa;exact Ay (j+1,_) sB ⟨by simp only;omega,Ag,k1.eff e4,kR.eff e4,N,Y,E,L,f,X⟩ (by simp only;omega)
 . obtain rfl:j=g.vars.length:=by omega
   rw [aH] at hF;refine cS (C1 V3 (cT (Ah (F5 (C3 (AG (AG (Bd (Ae (Ah (cS ?_)))))))))));refine C1 Pf (C1 (Pl Y) (C1 Pz (C1 Mv (cT ?_))));refine At ?_;refine AK (ι:=Nat×Value) (fun x=>[(1,.pointer (some ⟨b1,0,none⟩)),(3,.pointer (some ⟨V,0,none⟩)),(4,.pointer (some ⟨ag,0,none⟩)),(38,.slice pa g.procs.length pc),(39,.int .i64 g.procs.length),(40,.int .i64 x.1)])
    (fun x w'=>x.1<=g.procs.length/\FS w.heap.size V (CA [] g.vars+Es g.procs 0 (g.procs.take x.1)) w' x.2/\Kp V w' x.2 b1/\Kp V w' x.2 ag/\Blk w' ag [Ly V]/\Blk w' b1 (g.cells va vc pa pc ma mc)/\VDs (· < w.heap.size) w' g.vars va/\g.main.sits (· < w.heap.size) w' ma/\PDsC (· < w.heap.size) w' g.procs pa/\Ext w w')
    (fun x=>g.procs.length-x.1) (0,vj) sB ⟨aE _,hF,k1,kR,N,Y,E,L,f,X⟩ ?_
   clear hF k1 kR N Y E L f X ap hj;rintro ⟨j,vj⟩ w3 ⟨hj,hF,k1,kR,N,Y,E,L,f,X⟩;simp only at hj hF k1 kR N Y E L f X;have b8:=Fl g.vars [];by_cases ap:j<g.procs.length
   . have F : ∀q,vj.ownBlock=some q->w.heap.size<=q/\q<w3.heap.size/\q≠b1/\q≠ag:=fun q hq=>⟨hF.own.ge hq,hF.own.lt hq,fun e=>k1.2.2 (e▸hq),fun e=>kR.2.2 (e▸hq)⟩
     have av:=k1.not;have aw:=kR.not;have bl:=k1.1;have bm:=kR.1;have a8:=hF.cell.lt;have b7:=X.size;have ch:=JO g.procs 2009 (g.procs.take j) 0 (fun i p hp=>by
      obtain ⟨c1,c2,-,c4⟩:=Fm (o4 p (List.mem_of_mem_take hp));obtain ⟨-,-,c3⟩:=body_iff.1 c4;have h1:=Fl p.params [];have h2:=Ra g.procs p.body p.params;unfold LB;split<;>omega)
     have c8:(g.procs.take j).length*2009<=64*2009:=Nat.mul_le_mul_right _ (by simp;omega);have ax:=Kj g.procs g.procs 0 j ap;rw [Nat.zero_add] at ax;have c9:=U4 ap;obtain ⟨c1,c2,-,c4⟩:=Fm (o4 _ (Z8 ap));obtain ⟨-,-,c3⟩:=body_iff.1 c4;have ab:=f.pds;obtain ⟨kb,ko,rfl,kS,ao⟩:=f.get (by intro e;rw [e] at ap;simp at ap);obtain ⟨qa,qc,ba,bc,r0,Z,aa,da⟩:=ao j g.procs[j] (Z0 ap);clear ao c4;have ci:=Z2 (Q9 g Aa g.procs[j].name (· < w.heap.size) va vc (some ⟨kb,ko,none⟩) pc ma mc);generalize hM:CA [] g.vars+Es g.procs 0 (g.procs.take j)=M at *;have fg:M<=1000000:=by omega
     generalize Hk g.procs g.procs[j].name=np at *;generalize g.procs[j]=x at *;refine eK ?_;refine eA [_] ?_;intro ay fh b0 db fj fk;revert N E L X Y f ab hF r0 Z aa;refine eE db ?_;intro N E L X Y f ab hF r0 Z aa;refine eA [_,_,_,_,_,_] ?_;intro a1 ef bh cj eg eh;revert b0 N E L X Y f ab hF r0 Z aa;refine eE cj ?_;intro b0 N E L X Y f ab hF r0 Z aa;refine eS [_] b0 ?_;intro ei O bi ej;revert bh N E L X Y f ab;refine eF bi ?_;intro bh N E L X Y f ab;have hF:=FS.fr hF bi (fun k hk=>⟨Aa,fun e=>by have:=F _ e;omega⟩);revert r0 Z aa;refine eF bi ?_;intro r0 Z aa;refine eS [_,_,_,_,_,_] bh ?_;intro al U bj ek;revert O N E L X Y f ab;refine eF bj ?_;intro O N E L X Y f ab;have hF:=FS.fr hF bj (fun k hk=>⟨Aa,fun e=>by have:=F _ e;omega⟩);revert r0 Z aa;refine eF bj ?_;intro r0 Z aa;refine cT (Ah ?_);have am:Kp V al vj ay:=⟨Aa,Aa,fun e=>by have:=F _ e;omega⟩;have aq:Kp V al vj a1:=⟨Aa,Aa,fun e=>by have:=F _ e;omega⟩;have k1:=k1.grow (w':=al) Aa;have kR:=kR.grow (w':=al) Aa;have ai:=Z2 (fun (w':wD) (x':Ext al w')=>Hl w.heap.size V M vj j 22 x.name (fun _=>True) none 0 0 w' Aa Aa PathAt.nil (hF.ext x'));rw [show M+Qr 22=M+1 from rfl] at ai;refine EY (ι:=Value) (fun _=>[(1,.pointer (some ⟨b1,0,none⟩)),(3,.pointer (some ⟨V,0,none⟩)),(4,.pointer (some ⟨ag,0,none⟩)),(38,.slice (some ⟨kb,ko,none⟩) g.procs.length pc),(39,.int .i64 g.procs.length),(40,.int .i64 j),(7,.pointer (some ⟨ay,0,none⟩)),(8,.pointer (some ⟨a1,0,none⟩))]) (fun v2 w'=>FS w.heap.size V (M+(if np<(j:Int) then 1 else 0)) w' v2/\Kp V w' v2 b1/\Kp V w' v2 ag/\Kp V w' v2 ay/\Kp V w' v2 a1/\Blk w' ag [Ly V]/\Blk w' b1 (g.cells va vc (some ⟨kb,ko,none⟩) pc ma mc)/\VDs (· < w.heap.size) w' g.vars va/\g.main.sits (· < w.heap.size) w' ma/\PDsC (· < w.heap.size) w' g.procs (some ⟨kb,ko,none⟩)/\Ext w w'/\Blk w' ay [.int .i64 j]/\Blk w' a1 (x.cells qa qc ba bc)/\VDs (· < w.heap.size) w' x.params qa/\x.body.sits (· < w.heap.size) w' ba) ?_ ?_
     . have X3:=cB al;have X4:=cU (fun k=>k=V\/vj.ownBlock=some k) al;unfold Ly at N
       focus
        refine Ah (AD (fun wz=>Ext al wz) 5 (.pure 0 (.pure 1 (.pure 2 (.pure 4 (.fork 3 .tail .none))))) mixed Bo (Ab (Ab (Al (Ab (Ab (Al (Ab An))))))) ?_);intro dc ck _;have a2:(fun wz=>Ext al wz) dc:=ck;simp only at a2;have bo:=U;have bp:=O;have a9:=N;have bf:=E;have bb:=L;have be:=Y;have bd:=f;have cu:=ab;have el:=hF;have bs:=r0;have b2:=Z;have b3:=aa;revert U O N E L X Y f ab hF r0 Z aa X3 X4;refine eY ck ?_;intro fl U O N E L X Y f ab hF r0 Z aa X3 X4;refine ⟨a2,?_⟩;refine Tq rfl (xL [_,_,_,_,_,_] (fun wz hz=>(cL be hz))) ?_;refine eT ?_;refine tC rfl rfl (ci.out _ Ag) ?_;rintro _ fm ⟨⟨⟩,dd⟩;revert a2 U O N E L X Y f ab hF r0 Z aa X3 X4;refine eY dd ?_;intro fo a2 U O N E L X Y f ab hF r0 Z aa X3 X4;refine ⟨a2,?_⟩;refine AE rfl ?_;refine eK ?_;refine AN rfl (fun de=>?_) (fun de=>?_);refine eK ?_;refine Ax (BL (fi:=[]) (ca:=[.pointer (some ⟨V,0,none⟩)]) Bo rfl rfl (ai.out _ Ag) (fun _ _ h=>h.ret)) rfl ?_ aFh;rintro _ em ⟨⟨⟩,⟨df,⟨en,⟨ah,eo⟩⟩⟩⟩;have ep:=ah.size;have U:=cH U ah (fun h=>by (rcases h with h|h;omega;have:=F _ h;omega));have O:=cH O ah (fun h=>by (rcases h with h|h;omega;have:=F _ h;omega));have N:=cH N ah (aw);have E:=dJ E ah (fun b hb h=>by (rcases h with h|h;omega;have:=F _ h;omega));have L:=dD L ah (fun b hb h=>by (rcases h with h|h;omega;have:=F _ h;omega));have X:=dH X ah (fun k hk=>by (rcases hk with h|h;omega;have:=F _ h;omega));have Y:=cH Y ah (av);have f:=PDsC.fr f ah (fun b hb h=>by (rcases h with h|h;omega;have:=F _ h;omega));have ab:=PDs.fr ab ah (fun b hb h=>by (rcases h with h|h;omega;have:=F _ h;omega));clear hF r0;have Z:=dJ Z ah (fun b hb h=>by (rcases h with h|h;omega;have:=F _ h;omega));have aa:=dD aa ah (fun b hb h=>by (rcases h with h|h;omega;have:=F _ h;omega));have X4:=Fr.fr X4 ah (fun k hk=>Z6 hk);refine Ai ?_;rotate_left;refine Am ?_;rotate_left
       . have e4:=LF X4 Ag Aa;exact CT _ sB ⟨by rw [AX Ag];assumption,k1.eff e4,kR.eff e4,am.eff e4,aq.eff e4,N,Y,E,L,f,X,O,U,Z,aa⟩
       . exact CT vj sB ⟨by rw [AC Ag];exact hF,k1.grow Aa,kR.grow Aa,am.grow Aa,aq.grow Aa,N,Y,E,L,f,X,O,U,Z,aa⟩
     . clear U O N Y E L f ab hF r0 Z aa X k1 kR am aq ai ci F av aw bl bm a8;rintro v2 w4 ⟨hF,k1,kR,am,aq,N,Y,E,L,f,X,O,U,Z,aa⟩;obtain ⟨d1,b4⟩ : ∃d1:Nat,d1=(if np<(j:Int) then 1 else 0):=⟨_,rfl⟩
       have eq:d1<=1:=by rw [b4];split<;>omega
       rw [<-b4] at hF;refine Ah (cS (C1 Pf (C1 (Pl U) (C1 Pz (C1 Mv (cT ?_))))));refine At ?_;refine AK (ι:=Nat×Value) (fun y=>[(1,.pointer (some ⟨b1,0,none⟩)),(3,.pointer (some ⟨V,0,none⟩)),(4,.pointer (some ⟨ag,0,none⟩)),(38,.slice (some ⟨kb,ko,none⟩) g.procs.length pc),(39,.int .i64 g.procs.length),(40,.int .i64 j),(7,.pointer (some ⟨ay,0,none⟩)),(8,.pointer (some ⟨a1,0,none⟩)),(57,.slice qa x.params.length qc),(58,.int .i64 x.params.length),(59,.int .i64 y.1)])
        (fun y w'=>y.1<=x.params.length/\FS w.heap.size V (M+d1+CA [] (x.params.take y.1)) w' y.2/\Kp V w' y.2 b1/\Kp V w' y.2 ag/\Kp V w' y.2 ay/\Kp V w' y.2 a1/\Blk w' ag [Ly V]/\Blk w' b1 (g.cells va vc (some ⟨kb,ko,none⟩) pc ma mc)/\VDs (· < w.heap.size) w' g.vars va/\g.main.sits (· < w.heap.size) w' ma/\PDsC (· < w.heap.size) w' g.procs (some ⟨kb,ko,none⟩)/\Ext w w'/\Blk w' ay [.int .i64 j]/\Blk w' a1 (x.cells qa qc ba bc)/\VDs (· < w.heap.size) w' x.params qa/\x.body.sits (· < w.heap.size) w' ba)
        (fun y=>x.params.length-y.1) (0,v2) sB ⟨aE _,hF,k1,kR,am,aq,N,Y,E,L,f,X,O,U,Z,aa⟩ ?_
       clear hF k1 kR am aq N Y E L f X O U Z aa;rintro ⟨i,vi⟩ w5 ⟨hi,hF,k1,kR,am,aq,N,Y,E,L,f,X,O,U,Z,aa⟩;simp only at hi hF k1 kR am aq N Y E L f X O U Z aa;have dg:=Fl (x.params.take i) [];have F : ∀q,vi.ownBlock=some q->w.heap.size<=q/\q<w5.heap.size/\q≠b1/\q≠ag/\q≠ay/\q≠a1:=fun q hq=>⟨hF.own.ge hq,hF.own.lt hq,fun e=>k1.2.2 (e▸hq),fun e=>kR.2.2 (e▸hq),fun e=>am.2.2 (e▸hq),fun e=>aq.2.2 (e▸hq)⟩
       have av:=k1.not;have aw:=kR.not;have bl:=k1.1;have bm:=kR.1;have cl:=am.not;have cm:=aq.not;have fp:=am.1;have fq:=aq.1;have er:=hF.cell.lt;by_cases a7:i<x.params.length
       . obtain ⟨zb,zo,rfl,zS,ao⟩:=Z.get (by intro e;rw [e] at a7;simp at a7);have r0:=ao i x.params[i] (Z0 a7);have bx:(x.params.take i).length=i:=by simp;omega
         have ac:=Z.take i;have az:=Z2 (N7 (x.params.take i) Aa x.params[i].name);rw [bx] at az;have ax:=Hm x.params [] i a7;rw [List.nil_append] at ax;have bt:M+d1+CA [] (x.params.take (i+1))=M+d1+CA [] (x.params.take i)+Qr (E7 (x.params.take i) x.params[i].name):=by rw [ax];omega
         have ai:=Z2 (fun (w':wD) (x':Ext w5 w')=>Hl w.heap.size V (M+d1+CA [] (x.params.take i)) vi j (E7 (x.params.take i) x.params[i].name) x.params[i].name (fun _=>True) none 0 0 w' Aa Aa PathAt.nil (hF.ext x'));rw [<-bt] at ai;clear ao hF ax bt;have hm:(i:Int)=(i:Int):=rfl;generalize x.params[i]=y at *;obtain ⟨yn,yk,yl⟩:=y;dsimp only at az ai;replace r0:Row w5 ⟨zb,zo+i*3,none⟩ [str yn,.int .u8 yk,.int .i64 yl]:=r0;generalize E7 (x.params.take i) yn=ex at *;unfold Ly at N;have X3:=cB w5;have X4:=cU (fun k=>k=V\/vi.ownBlock=some k) w5;refine eK ?_;refine eA [_,_,_] ?_;intro fs ft dh di fu fv;revert N Y E L f X O aa U Z ac r0 X3 X4;refine eE di ?_;intro N Y E L f X O aa U Z ac r0 X3 X4;refine C1 Pa (eS [_,_,_] dh ?_);intro cn ar co es;revert N Y E L f X O aa U Z ac r0 X3 X4;refine eF co ?_;intro N Y E L f X O aa U Z ac r0 X3 X4;refine cT (AD (fun wz=>Ext cn wz) 11 (.pure 0 (.pure 1 (.pure 2 (.pure 3 (.pure 4 (.pure 5 (.pure 6 (.pure 7 (.pure 8 (.pure 9 (.fork 10 .tail .none))))))))))) mixed Bo (Al (Ab (Ab (Al (Ab (Al (Ab (Ab (Al (Ab An)))))))))) ?_);intro cp bu _;have au:(fun wz=>Ext cn wz) cp:=bu;simp only at au;have bq:=ar;have a9:=N;have be:=Y;have bf:=E;have bb:=L;have bd:=f;have bp:=O;have b3:=aa;have bo:=U;have b2:=Z;have bz:=ac;have bs:=r0;revert ar N Y E L f X O aa U Z ac r0 X3 X4;refine eY bu ?_;intro et ar N Y E L f X O aa U Z ac r0 X3 X4;refine ⟨au,?_⟩;refine eT ?_;refine Tq rfl (H7 Ac rfl rfl rfl rfl hm Aa) (Tq rfl Pg (Tq rfl (Db bq) ?_));refine tC rfl rfl (az.out _ _ _ _ ac) ?_
         rintro _ eu ⟨⟨⟩,cq⟩;revert au ar N Y E L f X O aa U Z ac r0 X3 X4;refine eY cq ?_;intro ew au ar N Y E L f X O aa U Z ac r0 X3 X4;refine ⟨au,?_⟩;refine AE rfl ?_;refine Ax (BL (fi:=[]) (ca:=[.pointer (some ⟨V,0,none⟩)]) Bo rfl rfl (ai.out _ Ag) (fun _ _ h=>h.ret)) rfl ?_ aFh;rintro _ ey ⟨⟨⟩,⟨dk,⟨ez,⟨af,e0⟩⟩⟩⟩;have e1:=af.size;have ar:=cH ar af (fun h=>by (rcases h with h|h;omega;have:=F _ h;omega));have N:=cH N af (aw);have Y:=cH Y af (av);have E:=dJ E af (fun b hb h=>by (rcases h with h|h;omega;have:=F _ h;omega));have L:=dD L af (fun b hb h=>by (rcases h with h|h;omega;have:=F _ h;omega));have f:=PDsC.fr f af (fun b hb h=>by (rcases h with h|h;omega;have:=F _ h;omega));have X:=dH X af (fun k hk=>by (rcases hk with h|h;omega;have:=F _ h;omega));have O:=cH O af (cl);have aa:=dD aa af (fun b hb h=>by (rcases h with h|h;omega;have:=F _ h;omega));have U:=cH U af (cm);have Z:=dJ Z af (fun b hb h=>by (rcases h with h|h;omega;have:=F _ h;omega));have ac:=dJ ac af (fun b hb h=>by (rcases h with h|h;omega;have:=F _ h;omega));have X4:=Fr.fr X4 af (fun k hk=>Z6 hk);refine Ai (Af (Ae (Aj (C1 V7 (C1 Mv (Ai ?_))))))
         have e4:=LF X4 Ag Aa;exact Ay (i+1,_) sB ⟨by simp only;omega,Ag,k1.eff e4,kR.eff e4,am.eff e4,aq.eff e4,N,Y,E,L,f,X,O,U,Z,aa⟩ (by simp only;omega)
       . obtain rfl:i=x.params.length:=by omega
         rw [aH] at hF dg;have a3:=Z2 (fun (w':wD) (x':Ext w5 w') (h1:x.body.sits (· < w.heap.size) w' ba) (h2:PDs (· < w.heap.size) w' g.procs (some ⟨kb,ko,none⟩)) (h3:VDs (· < w.heap.size) w' x.params qa)=>
          PH w.heap.size V Aa 92 [.pointer (some ⟨ag,0,none⟩),.pointer (some ⟨ay,0,none⟩)] Bo _ (Tn w.heap.size V ag ay j) g Aa va vc (some ⟨kb,ko,none⟩) pc ma mc (x.body.size+1)
           x.body x.params (· < w.heap.size) (fun _=>False) ba bc qa qc none 0 0 w' vi (M+d1+CA [] x.params) Aa Aa Aa Aa h1 h2 h3 da PathAt.nil
           (fun b hb=>⟨by have:=x'.size;have:=X.size;omega,Aa,fun e=>by have:=F _ e;omega⟩) (fun _ h=>h.elim) (hF.ext x') ⟨N.ext x',O.ext x',kR.grow x'.size,am.grow x'.size⟩)
         have cr:M+d1+CA [] x.params+x.body.flt g.procs x.params=CA [] g.vars+Es g.procs 0 (g.procs.take (j+1)):=by
          have dl:d1=if (Fs g.procs x.name).getD j<j then 1 else 0:=by
           rw [b4];have h:=decide_eq_decide.1 c9;by_cases h1:np<(j:Int)
           . rw [AX h1,AX (h.1 h1)]
           . rw [AC h1,AC (fun e=>h1 (h.2 e))]
          rw [ax,dl,LB];omega
         rw [cr] at a3;have ab:=f.pds;have X3:=cB w5;have X4:=cU (fun k=>k=V\/vi.ownBlock=some k) w5;refine eK ?_;refine C1 (EK rfl) (cC rfl (a3.out _ Ag Ag Ag Ag) ?_);rintro _ fw ⟨⟨⟩,⟨e2,⟨fx,⟨an,fy⟩⟩⟩⟩;have fz:=an.size;have N:=cH N an (aw);have Y:=cH Y an (av);have E:=dJ E an (fun b hb h=>by (rcases h with h|h;omega;have:=F _ h;omega));have L:=dD L an (fun b hb h=>by (rcases h with h|h;omega;have:=F _ h;omega));have f:=PDsC.fr f an (fun b hb h=>by (rcases h with h|h;omega;have:=F _ h;omega));have X:=dH X an (fun k hk=>by (rcases hk with h|h;omega;have:=F _ h;omega));have O:=cH O an (cl);have U:=cH U an (cm);have Z:=dJ Z an (fun b hb h=>by (rcases h with h|h;omega;have:=F _ h;omega));have aa:=dD aa an (fun b hb h=>by (rcases h with h|h;omega;have:=F _ h;omega));clear hF;have ab:=PDs.fr ab an (fun b hb h=>by (rcases h with h|h;omega;have:=F _ h;omega));have X4:=Fr.fr X4 an (fun k hk=>Z6 hk);refine Ai (Af (Ae (Aj (C1 V7 (C1 Mv (Ai ?_))))));have e4:=LF X4 Ag Aa;exact Ay (j+1,_) sB ⟨by simp only;omega,Ag,k1.eff e4,kR.eff e4,N,Y,E,L,f,X⟩ (by simp only;omega)
   . obtain rfl:j=g.procs.length:=by omega
     rw [aH] at hF;have F : ∀q,vj.ownBlock=some q->w.heap.size<=q/\q<w3.heap.size/\q≠b1/\q≠ag:=fun q hq=>⟨hF.own.ge hq,hF.own.lt hq,fun e=>k1.2.2 (e▸hq),fun e=>kR.2.2 (e▸hq)⟩
     have av:=k1.not;have aw:=kR.not;have bl:=k1.1;have bm:=kR.1;have a8:=hF.cell.lt;have b7:=X.size;obtain ⟨-,-,c3⟩:=body_iff.1 o5;have ch:=JO g.procs 2009 g.procs 0 (fun i p hp=>by
      obtain ⟨c1,c2,-,c4⟩:=Fm (o4 p hp);obtain ⟨-,-,c3⟩:=body_iff.1 c4;have h1:=Fl p.params [];have h2:=Ra g.procs p.body p.params;unfold LB;split<;>omega)
     have c8:g.procs.length*2009<=64*2009:=Nat.mul_le_mul_right _ o2;have ab:=f.pds;have a3:=Z2 (fun (w':wD) (x':Ext w3 w') (h1:g.main.sits (· < w.heap.size) w' ma) (h2:PDs (· < w.heap.size) w' g.procs pa) (h3:VDs (· < w.heap.size) w' g.vars va)=>
      PH w.heap.size V Aa 93 [.pointer (some ⟨ag,0,none⟩),.pointer (some ⟨b1,0,none⟩)] Bo _ (To w.heap.size V ag b1 g va vc pa pc ma mc) g Aa va vc pa pc ma mc (g.main.size+1)
       g.main g.vars (· < w.heap.size) (fun _=>False) ma mc va vc none 0 0 w' vj (CA [] g.vars+Es g.procs 0 g.procs) Aa Aa Aa Aa h1 h2 h3 cw PathAt.nil
       (fun b hb=>⟨by have:=x'.size;omega,Aa,fun e=>by have:=F _ e;omega⟩) (fun _ h=>h.elim) (hF.ext x') ⟨N.ext x',Y.ext x',kR.grow x'.size,k1.grow x'.size⟩)
     rw [show CA [] g.vars+Es g.procs 0 g.procs+g.main.flt g.procs g.vars=g.flt from rfl] at a3;have X3:=cB w3;clear hF;refine eK ?_;refine C1 (EK rfl) (cC rfl (a3.out _ Ag Ag Ag Ag) ?_);rintro _ f0 ⟨⟨⟩,⟨ct,⟨b5,⟨a4,dm⟩⟩⟩⟩;have f1:=a4.size;have N:=cH N a4 (aw);have Y:=cH Y a4 (av);have E:=dJ E a4 (fun b hb h=>by (rcases h with h|h;omega;have:=F _ h;omega));have L:=dD L a4 (fun b hb h=>by (rcases h with h|h;omega;have:=F _ h;omega));have f:=PDsC.fr f a4 (fun b hb h=>by (rcases h with h|h;omega;have:=F _ h;omega));have X:=dH X a4 (fun k hk=>by (rcases hk with h|h;omega;have:=F _ h;omega));have ab:=PDs.fr ab a4 (fun b hb h=>by (rcases h with h|h;omega;have:=F _ h;omega));refine cT ?_;have dn : ∃a c,ct = .slice a g.flt c:=by
      obtain ⟨f2,h1,-⟩:=b5.own.ex;rw [List.length_replicate] at h1;rcases h1.row with ⟨h2,h0,-⟩|⟨q,cap,h2,-⟩
      . exact ⟨none,0,by rw [h2,h0]⟩
      . exact ⟨_,_,h2⟩
     have hc:=b5.cell;obtain ⟨ra,rc,rfl⟩:=dn;clear b5 dm N Y E L f ab;refine eK ?_;refine xR ?_;exact ⟨_,_,rfl,X⟩
def Kn {x:Nd} : ∀ {l:List Nd},x∈B8 l -> ∃t∈l,x∈t.walk
 | [],h=>by simp [B8] at h
 | t::r,h=>by
  simp only [B8,List.mem_append] at h;rcases h with h|h
  . exact ⟨t,Bn,h⟩
  . obtain ⟨u,f,E⟩:=Kn h;exact ⟨u,by simp [f],E⟩
def Ts {k n:Int} {s:lB} {l:List Nd} (h:(Nd.mk k n s l).good) : ∀x∈l,x.good:=by
 intro x f;rcases h with h|h|h
 . cases Dh h with
   | call _ _ _ L=>exact aA (aA (Iy (bR.1 L x f)))
   | upd _ h1 E=>simp only [aK,aR,or_false] at f;rcases f with rfl|rfl<;>first|exact aA (aA (Bl Ag))|exact aA (aA Ag)
   | swap h1 E=>simp only [aK,aR,or_false] at f;rcases f with rfl|rfl<;>exact aA (aA (Bl Ag))
   | stack _ _ h1=>simp only [aK,aR,or_false] at f;rw [f];exact aA (aA (Bl h1))
   | tape _ h1=>simp only [aK,aR,or_false] at f;rw [f];exact aA (aA (Bl h1))
   | branch _ h1 E M N=>simp only [aK,aR,or_false] at f;rcases f with rfl|rfl|rfl|rfl<;>first|exact aA (aA Ag)|exact aA (Z6 Ag)
   | local_ _ h1 E M=>simp only [aK,aR,or_false] at f;rcases f with rfl|rfl|rfl<;>first|exact aA (aA Ag)|exact aA (Z6 Ag)
   | lstack _ h1=>simp only [aK,aR,or_false] at f;rw [f];exact aA (Z6 h1)
 . obtain ⟨e,F⟩:=EI h;simp only [Nd.kids] at F;exact Z6 (rowStmt_iff.1 F x f)
 . exact aA (aA ((MU h).2.1 x f))
def Tt (N:Nat) : ∀t:Nd,t.size<N->t.good->t.wf -> ∀x∈t.walk,x.good/\x.wf/\x.size<=t.size:=by
 induction N with
 | zero=>intro t h;omega
 | succ N O=>
  rintro ⟨k,n,s,l⟩ U M E x f;rw [Nd.walk,aK] at f;rcases f with rfl|f
  . exact ⟨M,E,aC _⟩
  . obtain ⟨t,F,L⟩:=Kn f;have X:=CP F;simp only [cE] at U ⊢;obtain ⟨h1,V,Y⟩:=O t Aa (Ts M t F) (BO (by simp only [Nd.wf] at E;exact E.2.2.2.2.2.2) t F) x L;exact ⟨h1,V,Aa⟩
def LG {t:Nd} (h:t.isBlock=true) (f:t.wf) : ∀x∈t.walk,x.good/\x.wf/\x.size<=t.size:=Tt (t.size+1) t Aa (aA (Z6 h)) f
def Ji {P:Program} {n:Nat} {l:Sl} {tab:Tab} {zt:Em} {ty:TypeId} {w:wD} {x y:Operand} {t e sz1 B B' c d:Nat} {a a':oA} {sE:Sk} {zs:lV} {xs ys:List Int} (T:TabOk P tab) (Z:Cy P zt) (ht:AB tab t=some (.slice e,sz1)) (hE:AB tab e=some (sE,4)) (hz:CN zt e=some zs) (hzl:zs.length=4)
 (hby:Df P e=true) (hx:ev l x=some (.slice a xs.length c)) (hy:ev l y=some (.slice a' ys.length d)) (hox:OwnQ rejShape w (fun _=>False) B e (.slice a xs.length c) xs) (hoy:OwnQ rejShape w (fun _=>False) B' e (.slice a' ys.length d) ys) (hxn:xs=[]->a=none/\c=0) (hyn:ys=[]->a'=none/\d=0) (hlen:xs.length+ys.length<=10000000000) (hB:B<=w.heap.size) :
 Ct P n l (.call ⟨.builtin .append,#[x,y],#[t,t]⟩) ty w (K7 fun o w'=> ∃a2 c2,o = .slice a2 (xs++ys).length c2/\OwnQ rejShape w' (fun _=>False) B e (.slice a2 (xs++ys).length c2) (xs++ys)/\Fr (fun k=>(bI a xs.length c).ownBlock=some k) w w'/\(xs++ys=[]->a2=none/\c2=0)):=by
 by_cases b:ys=[]
 . obtain ⟨rfl,rfl⟩:=hyn b;subst b;rw [List.append_nil];obtain ⟨i,hi,hs⟩:=(T _ _ _ hE).info;have hun:=(T _ _ _ ht).under;have key:(Builtin.append_ #[t,t] ty #[.slice a xs.length c,.slice none 0 0]).run P w = .ok (.slice a xs.length c) w:=by
    obtain ⟨css,h1,-⟩:=hox.ex;exact run_append_owned_none (P:=P) w B t ty e i 4 hun hi _ xs.length css.flatten h1
   unfold Ct;intro act dst pos after g next Q ha hn _;have e1:(execOp act.eval ⟨dst,.call ⟨.builtin .append,#[x,y],#[t,t]⟩,ty,pos,after,g⟩).run P w = .ok (.value (.slice a xs.length c)) w:=by
    simp only [Z4] at hy;simp only [execOp,resolve,invoke,builtin,aF,aO,bN,List.map_toArray,bZ,List.map_nil,ha.ev hx,ha.ev hy,key]
   unfold Oper.wp;rw [e1];exact hn _ _ ⟨a,c,rfl,hox,cU _ _,hxn⟩
 . obtain ⟨css,h1,h2,h3⟩:=hox.ex;obtain ⟨cys,k1,k2,k3⟩:=hoy.ex;have hpos:0<ys.length:=List.length_pos_iff.2 b;rcases k1.row with ⟨-,h0,-⟩|⟨g,cap,hv,-,-,hr⟩
   . omega
   simp only [aS] at hv;obtain ⟨rfl,-,-⟩:=hv;have hone:cys.flatten.all dA=true:=by
    rw [bR];intro u hu;obtain ⟨cs,hcs,hu⟩:=List.mem_flatten.1 hu;obtain ⟨j,hj,rfl⟩:=List.mem_iff_getElem.1 hcs;have:=rejShape.one (k3 j ys[j] cys[j] (Z0 Aa) (Z0 hj));exact bR.1 this u hu
   have hd:=Ed (P:=P) (n:=n) (l:=l) (ty:=ty) T Z ht hE hz hzl hby rfl hx hy h1 hr k1.1 hone Aa Aa hB;unfold Ct at hd ⊢;intro act dst pos after gd next Q ha hn f;refine hd act dst pos after gd next Q ha (fun v' w' hG=>?_) (fun w' hG=>hG.elim);obtain ⟨g1,g2,g',cap',rfl,g4⟩:=hG;refine hn _ w' ⟨some ⟨g',0,none⟩,cap',by rw [ZZ],⟨css++cys,by rw [List.flatten_append,ZZ];exact g1,by simp [h2,k2],fun j z ds hz hd=>?_⟩,g2,fun e=>by simp [b] at e⟩;by_cases hj:j<xs.length
   . rw [bG hj] at hz;rw [bG Aa] at hd;exact h3 j z ds hz hd
   . rw [bS Aa] at hz;rw [bS Aa,h2] at hd;exact k3 _ z ds hz hd
def Dy (ps:List PD):List Int:=ps.flatMap fun p=>CD p.body.walk
def PG.errs (g:PG):List Int:=if g.flt=0 then Dy g.procs++CD g.main.walk else []
def PR {f:List PD} {j:Nat} (h:j<f.length):Dy (f.take (j+1))=Dy (f.take j)++CD (f[j]).body.walk:=by
 unfold Dy;rw [aD h,List.flatMap_append];simp
def LH (K:Nat) : ∀f:List PD,(∀p∈f,p.body.size<=K)->(Dy f).length<=f.length*K
 | [],_=>by simp [Dy]
 | p::r,h=>by
  have h1:=LH K r (fun q E=>h q (by simp [E]));have F:=GN p.body.walk;rw [Hg] at F;have L:=h p Bn;have e:Dy (p::r)=CD p.body.walk++Dy r:=by simp [Dy]
  rw [e,ZZ,Z1,Nat.add_mul];omega
set_option maxHeartbeats 8000000 in
def U9 (g:PG) (ab:g.wf) (aj:g.ok=true) (S:nP) (va:oA) (vc:Nat) (pa:oA) (pc:Nat) (ma:oA) (mc:Nat) (w:wD) (V:g.sits S w va pa ma) (f:PDsC S w g.procs pa) (an:g.vars.length<=vc) :
 Calls prog 50 #[.agg (g.cells va vc pa pc ma mc).toArray] w (ChkR g.errs w):=by
 have HV:=Z2 (Jh ab aj);have HS:=Z2 (fun S va vc pa pc ma mc w V hp hv=>PQ g ab aj S va vc pa pc ma mc w V hp hv);obtain ⟨o1,o2,-,o4,o5⟩:=Gm aj;have f:=f.ltA;have V:=V.ltA;have X:=cB w;by_cases hf:g.flt=0
 . have he:g.errs=Dy g.procs++CD g.main.walk:=AX hf;rw [he];rw [hf] at HS;have F:=V.main;obtain ⟨b1,-,b3⟩:=body_iff.1 o5;have HM:=Z2 (R6 (-1) g.main Aa (fun x hx=>by
    obtain ⟨h1,h2,h3⟩:=LG b1 ab.main x hx;exact ⟨h1,h2,Aa⟩))
   refine Ad func50 ntmps50 rfl rfl ?_;refine cS (eB [_,_,_,_,_,_] ?_);intro b1 w2 O x5 p6 z7;revert f V X F;refine eE x5 ?_;intro f V X F;refine eK ?_;refine cC rfl (HV.out _ _ _ _ _ _ _ _ Ag) ?_;rintro _ w9 ⟨⟨⟩,x8⟩;revert O f V X F;refine eY x8 ?_;intro bm O f V X F;refine eK ?_;refine eQ rfl (HS.out _ _ _ _ _ _ _ _ Ag Ag an) ?_;rintro _ bn ⟨bo,⟨bp,⟨⟨⟩,ar⟩⟩⟩;revert O f V X F;refine eY ar ?_;intro bq O f V X F;refine Ba rfl rfl rfl (rfl) (C1 Pz (Ba rfl rfl rfl (rfl) (C1 V5 (C1 (BS rfl rfl rfl) (cT (VQ (Am (Ae (cS (C1 Pa (cT ?_)))))))))));refine Ah (cS (C1 Pf (C1 (Pl O) (C1 Pz (C1 Mv (cT ?_))))));refine At ?_;refine AK (ι:=Nat×oA×Nat) (fun y=>[(1,.pointer (some ⟨b1,0,none⟩)),(3,.slice y.2.1 (Dy (g.procs.take y.1)).length y.2.2),(16,.slice pa g.procs.length pc),(17,.int .i64 g.procs.length),(18,.int .i64 y.1)])
    (fun y w'=>y.1<=g.procs.length/\OwnQ rejShape w' (fun _=>False) (w.heap.size+1) 207 (.slice y.2.1 (Dy (g.procs.take y.1)).length y.2.2) (Dy (g.procs.take y.1))/\(Dy (g.procs.take y.1)=[]->y.2.1=none/\y.2.2=0)/\Blk w' b1 (g.cells va vc pa pc ma mc)/\PDsC (· < w.heap.size) w' g.procs pa/\g.main.sits (· < w.heap.size) w' ma/\Ext w w')
    (fun y=>g.procs.length-y.1) (0,none,0) sB ⟨aE _,OwnQ.nil,fun _=>⟨rfl,rfl⟩,O,f,F,X⟩ ?_
   clear O f F X V;rintro ⟨j,ra,rc⟩ w3 ⟨hj,L,ac,O,f,F,X⟩;simp only at hj L ac O f F X;have N : ∀q,(bI ra (Dy (g.procs.take j)).length rc).ownBlock=some q->w.heap.size+1<=q/\q<w3.heap.size:=fun q hq=>⟨L.ge hq,L.lt hq⟩
   have au:=LH 2000 (g.procs.take j) (fun p hp=>(body_iff.1 (Fm (o4 p (List.mem_of_mem_take hp))).2.2.2).2.2);have av:(g.procs.take j).length*2000<=64*2000:=Nat.mul_le_mul_right _ (by simp;omega);have br:=X.size;have bs:=O.lt;by_cases aa:j<g.procs.length
   . obtain ⟨kb,ko,rfl,kS,ae⟩:=f.get (by intro e;rw [e] at aa;simp at aa);obtain ⟨qa,qc,ba,bc,r0,-,Y,-⟩:=ae j g.procs[j] (Z0 aa);obtain ⟨d1,-,d3⟩:=body_iff.1 (Fm (o4 _ (Z8 aa))).2.2.2;have aw:=PR aa;have ak:=GN (g.procs[j]).body.walk;rw [Hg] at ak;have HC:=Z2 (R6 j (g.procs[j]).body Aa (fun x hx=>by
      obtain ⟨h1,h2,h3⟩:=LG d1 (ab.procs _ (Z8 aa)).body x hx;exact ⟨h1,h2,Aa⟩))
     clear ae d1;generalize g.procs[j]=x at *;generalize CD x.body.walk=ys at *;generalize hE:Dy (g.procs.take j)=E at *
     focus
      refine eK ?_;refine eA [_,_,_,_,_,_] ?_;intro bt bu ax ay bv bw;revert F X O f r0 Y L;refine eE ay ?_;intro F X O f r0 Y L;refine C1 Pa (eS [_,_,_,_,_,_] ax ?_);intro bx Z af a2;revert F X O f r0 Y;refine eF af ?_;intro F X O f r0 Y;have L:=OwnQ.fr L af (fun k hk=>⟨id,fun e=>by have:=N _ e;omega⟩);refine eK ?_;refine eQ rfl (HC.out _ _ _ _ Ag) ?_;rintro _ a3 ⟨a4,⟨a5,⟨⟨⟩,⟨a6,⟨ao,a7⟩⟩⟩⟩⟩;revert Z F X O f r0 Y L;refine eY ao ?_;intro a8 Z F X O f r0 Y L;refine Ax (Ji Ac Ci rfl rfl rfl rfl Bo rfl rfl Ag Ag ac Ag Aa Aa) rfl ?_ aFh;rintro _ a9 ⟨al,⟨am,⟨rfl,⟨ag,⟨M,ah⟩⟩⟩⟩⟩;have bb:=M.size;have Z:=cH Z M (fun h=>by have:=N _ h;omega);have F:=dD F M (fun b hb h=>by have:=N _ h;omega);have X:=dH X M (fun k hk=>by have:=N _ hk;omega);have O:=cH O M (fun h=>by have:=N _ h;omega);have f:=PDsC.fr f M (fun b hb h=>by have:=N _ h;omega);have Y:=dD Y M (fun b hb h=>by have:=N _ h;omega);clear L M;refine C1 Pa (Ai (Af (Ae (Aj (C1 V7 (C1 Mv (Ai ?_)))))));rotate_left
     rw [<-aw] at ag ah ⊢;exact Ay (j+1,al,am) sB ⟨by simp only;omega,ag,ah,O,f,F,X⟩ (by simp only;omega)
   . obtain rfl:j=g.procs.length:=by omega
     rw [aH] at L ac au N;refine CW.sub (m:=[(1,.pointer (some ⟨b1,0,none⟩)),(3,.slice ra (Dy g.procs).length rc),(16,.slice pa g.procs.length pc),(17,.int .i64 g.procs.length),(18,.int .i64 g.procs.length)]) ?_ (Az rfl (BP rfl (by simp only [aH]) (Az rfl (Az rfl (Az rfl Cj)))));have ak:=GN g.main.walk;rw [Hg] at ak;rw [aH] at av;generalize CD g.main.walk=ys at *;generalize hE:Dy g.procs=E at *;rw [hE] at *;refine eK ?_;refine eQ rfl (HM.out _ _ _ _ Ag) ?_;rintro _ bz ⟨b0,⟨b2,⟨⟨⟩,⟨b4,⟨az,b5⟩⟩⟩⟩⟩;revert O f F X L;refine eY az ?_;intro b6 O f F X L;refine Ax (Ji Ac Ci rfl rfl rfl rfl Bo rfl rfl Ag Ag ac Ag Aa Aa) rfl ?_ aFh;rintro _ bd ⟨be,⟨bf,⟨rfl,⟨ai,⟨U,ap⟩⟩⟩⟩⟩;have bg:=U.size;have O:=cH O U (fun h=>by have:=N _ h;omega);have f:=PDsC.fr f U (fun b hb h=>by have:=N _ h;omega);have F:=dD F U (fun b hb h=>by have:=N _ h;omega);have X:=dH X U (fun k hk=>by have:=N _ hk;omega);clear L U;refine eK ?_;refine xR ?_;exact ⟨_,_,rfl,OwnQ.below ai (fun k hk=>by have:=ai.ge hk;omega),X,ap⟩
 . have he:g.errs=[]:=AC hf;rw [he];refine Ad func50 ntmps50 rfl rfl ?_;refine cS (eB [_,_,_,_,_,_] ?_);intro b7 b8 ad a0 b9 ca;revert f V X;refine eE a0 ?_;intro f V X;refine eK ?_;refine cC rfl (HV.out _ _ _ _ _ _ _ _ Ag) ?_;rintro _ cb ⟨⟨⟩,a1⟩;revert ad f V X;refine eY a1 ?_;intro bh ad f V X;refine eK ?_;refine eQ rfl (HS.out _ _ _ _ _ _ _ _ Ag Ag an) ?_;rintro _ bi ⟨bj,⟨bk,⟨⟨⟩,aq⟩⟩⟩;revert ad f V X;refine eY aq ?_;intro bl ad f V X;refine eK ?_;refine xR ?_;all_goals exact ⟨none,0,rfl,OwnQ.nil,X,fun _=>⟨rfl,rfl⟩⟩
def PG.acc (g:PG):Prop:=g.ok=true/\g.flt=0/\g.errs=[]
def Za (g:PG) (F:g.wf) (S:nP) (va:oA) (vc:Nat) (O:oA) (pc:Nat) (ma:oA) (mc:Nat) (w:wD) (E:g.sits S w va O ma) (f:PDsC S w g.procs O) (U:g.vars.length<=vc) :
 Calls prog 25 #[.agg (g.cells va vc O pc ma mc).toArray] w fun e w'=> ∃q,e = .returned (.bool q)/\(q=true↔g.acc)/\Ext w w':=by
 have X:=cB w;have E:=E.ltA;have f:=f.ltA;cases hok:g.ok
 . have V:=Z2 (Jh F hok);have hn : ¬g.acc:=fun h=>by rw [h.1] at hok;cases hok
   clear F hok f;refine Ad func25 ntmps25 rfl rfl ?_;refine cS (eB [_,_,_,_,_,_] ?_);intro b1 w2 h4 x5 p6 z7;revert X E;refine eE x5 ?_;intro X E;refine eK ?_;refine cC rfl (V.out _ _ _ _ _ _ _ _ Ag) ?_;rintro _ w9 ⟨⟨⟩,x8⟩;revert h4 X E;refine eY x8 ?_;intro be h4 X E;refine eK ?_;refine xR ?_;exact ⟨_,rfl,⟨(fun h=>nomatch h),fun h=>absurd h hn⟩,X⟩
 have V:=Z2 (Jh F hok);have HC:=Z2 (fun w1 h1 h2=>PQ g F hok (· < w.heap.size) va vc O pc ma mc w1 h1 h2 U);have HE:=Z2 (fun w1 h1 h2=>U9 g F hok (· < w.heap.size) va vc O pc ma mc w1 h1 h2 U);by_cases Y:g.flt=0
 . rw [Y] at HC;have hq:g.acc↔g.errs.length=0:=⟨fun h=>by rw [h.2.2];rfl,fun h=>⟨hok,Y,List.eq_nil_of_length_eq_zero h⟩⟩;rw [hq];generalize g.errs=xs at *;clear F hok Y hq;by_cases hx:xs.length=0
   . refine Ad func25 ntmps25 rfl rfl ?_;refine cS (eB [_,_,_,_,_,_] ?_);intro bf bg L ae bh bi;revert X E f;refine eE ae ?_;intro X E f;refine eK ?_;refine cC rfl (V.out _ _ _ _ _ _ _ _ Ag) ?_;rintro _ bj ⟨⟨⟩,af⟩;revert L X E f;refine eY af ?_;intro ak L X E f;refine eK ?_;refine eQ rfl (HC.out _ Ag Ag) ?_;rintro _ al ⟨am,⟨an,⟨⟨⟩,Z⟩⟩⟩;revert L X E f;refine eY Z ?_;intro ao L X E f;refine eK ?_;refine eQ rfl (HE.out _ Ag Ag) ?_;rintro _ ap ⟨aq,⟨ar,⟨⟨⟩,⟨au,⟨aa,av⟩⟩⟩⟩⟩;revert L X E f;refine eY aa ?_;intro aw L X E f;refine eK ?_;refine xR ?_;exact ⟨_,rfl,by simp [hx],X⟩
   . refine Ad func25 ntmps25 rfl rfl ?_;refine cS (eB [_,_,_,_,_,_] ?_);intro bk bl M ag bm bn;revert X E f;refine eE ag ?_;intro X E f;refine eK ?_;refine cC rfl (V.out _ _ _ _ _ _ _ _ Ag) ?_;rintro _ bo ⟨⟨⟩,ah⟩;revert M X E f;refine eY ah ?_;intro ax M X E f;refine eK ?_;refine eQ rfl (HC.out _ Ag Ag) ?_;rintro _ ay ⟨az,⟨a0,⟨⟨⟩,ab⟩⟩⟩;revert M X E f;refine eY ab ?_;intro a1 M X E f;refine eK ?_;refine eQ rfl (HE.out _ Ag Ag) ?_;rintro _ a2 ⟨a3,⟨a4,⟨⟨⟩,⟨a5,⟨ac,a6⟩⟩⟩⟩⟩;revert M X E f;refine eY ac ?_;intro a7 M X E f;refine eK ?_;refine xR ?_;exact ⟨_,rfl,by simp [hx],X⟩
 . have hn : ¬g.acc:=fun h=>Y h.2.1
   have a8:0<g.flt:=Nat.pos_of_ne_zero Y;generalize g.flt=nf at *;clear F hok;refine Ad func25 ntmps25 rfl rfl ?_;refine cS (eB [_,_,_,_,_,_] ?_);intro bp bq N ai br bs;revert X E f;refine eE ai ?_;intro X E f;refine eK ?_;refine cC rfl (V.out _ _ _ _ _ _ _ _ Ag) ?_;rintro _ bt ⟨⟨⟩,aj⟩;revert N X E f;refine eY aj ?_;intro a9 N X E f;refine eK ?_;refine eQ rfl (HC.out _ Ag Ag) ?_;rintro _ ba ⟨bb,⟨bc,⟨⟨⟩,ad⟩⟩⟩;revert N X E f;refine eY ad ?_;intro bd N X E f;refine eK ?_;refine xR ?_;exact ⟨_,rfl,⟨(fun h=>nomatch h),fun h=>absurd h hn⟩,X⟩
structure EX where
 name:lB
 points:Int
 fuel:Int
 box:BoxV
 g:PG
def EX.cells (e:EX) (va:oA) (vc:Nat) (pa:oA) (pc:Nat) (ma:oA) (mc:Nat):lV:=
 [str e.name,.int .i64 e.points,.int .i64 e.fuel,.int .i64 e.box.v,.int .i64 e.box.l,.int .i64 e.box.i,.slice va e.g.vars.length vc,.slice pa e.g.procs.length pc,.int .u8 e.g.main.kind,.int .i64 e.g.main.num,str e.g.main.name,.slice ma e.g.main.kids.length mc]
def PG.pinv (g:PG):PG:=⟨g.vars,g.procs,g.main.inv false⟩
def EX.num (e:EX):Prop:=Bc e.name=true/\(1<=e.points/\e.points<=1000)/\0<=e.fuel/\e.fuel<=1000000
instance (e:EX):Decidable e.num:=by unfold EX.num;infer_instance
instance (g:PG):Decidable g.acc:=by unfold PG.acc;infer_instance
def EX.valid (e:EX):Prop:=e.num/\e.g.acc/\e.g.pinv.acc/\(FY e.g.vars e.box).2=0/\(FY e.g.vars e.box).1<=65536
instance (e:EX):Decidable e.valid:=by unfold EX.valid;infer_instance
def PG.pinv_eq (g:PG):g.pinv=g.inv id false:=(PG.inv_id false g).symm
def PG.pinv_back {g:PG} (h:g.ok=true):g.pinv.pinv=g:=by
 have:=PM (f:=id) false h (fun _ _=>rfl);rwa [<-PG.pinv_eq,<-PG.pinv_eq] at this
def PG.pinv_wf {g:PG} (h:g.wf) (f:g.ok=true):g.pinv.wf:=by
 rw [PG.pinv_eq];exact Tr false h f (fun p E=>(h.procs p E).body)
def EX.sol (e:EX):EX:={ e with g:=e.g.pinv }
def EX.sol_valid {e:EX} (h:e.valid):e.sol.valid:=by
 obtain ⟨h1,f,E,F⟩:=h;refine ⟨h1,E,?_,F⟩;show e.g.pinv.pinv.acc;rw [PG.pinv_back f.1];exact f
def WY {P:Program} {n:Nat} {l:Sl} {S:wD->Prop} {ty t t':TypeId} {x y:Operand} {a b m:Int} (h:ev l x=some (.int .i64 a)) (E:ev l y=some (.int .i64 b)) (F:min a b=m):By P n l S (.call ⟨.builtin .min,#[x,y],#[t,t']⟩) ty (.int .i64 m):=by
 unfold By;intro c w L pos after g f _;have e:(if b<a then b else a)=m:=by rw [<-F];split<;>omega
 simp [execOp,resolve,invoke,builtin,Builtin.min_,Builtin.min2,f.ev h,f.ev E,e]
def M5 (x y:Int) (f:1<=x/\x<=1099511627777) (M:1<=y/\y<=1099511627777) (w:wD) :
 Calls prog 54 #[.int .i64 x,.int .i64 y] w fun e w'=>e = .returned (.int .i64 (FO x y))/\Ext w w':=by
 have X:=cB w;have h1:(1099511627776:Int).tdiv y=1099511627776/y:=Int.tdiv_eq_ediv_of_nonneg Aa;have U:0<=(1099511627776:Int)/y:=Int.ediv_nonneg Aa Aa;have V:(1099511627776:Int)/y<=1099511627776:=Int.ediv_le_self _ Aa;have h:IntKind.wrap .i64 ((1099511627776:Int).tdiv y)=1099511627776/y:=by rw [h1];exact aQ _ Aa
 have N:y≠0:=by omega
 by_cases E:1099511627776/y<x
 . rw [show FO x y=1099511627777 by unfold FO;rw [AX E]];generalize (1099511627776:Int)/y=q at *;refine Ad func54 ntmps54 rfl rfl ?_;refine eK ?_;refine C1 (NA rfl rfl Ag h) ?_;refine eK ?_;refine xR ?_;exact ⟨rfl,X⟩
 . have F:=NH f.1 f.2 M.1;have e:FO x y=x*y:=by unfold FO;rw [AC E]
   rw [e] at F ⊢;obtain ⟨m,L⟩ : ∃m,x*y=m:=⟨_,rfl⟩;rw [L] at F ⊢;have O:IntKind.wrap .i64 (x*y)=m:=by rw [L];exact aQ _ Aa
   generalize (1099511627776:Int)/y=q at *;clear h1 e;refine Ad func54 ntmps54 rfl rfl ?_;refine eK ?_;refine C1 (NA rfl rfl Ag h) ?_;refine eK ?_;refine C1 (DL rfl rfl O) ?_;refine eK ?_;refine xR ?_;exact ⟨rfl,X⟩
def PT (p:Int×Int) (y:Int) (hp:0<=p.1/\p.1<=1000) (hq:0<=p.2/\p.2<=1000) (O:1<=y/\y<=1099511627777) (w:wD) :
 Calls prog 55 #[.agg #[.int .i64 p.1,.int .i64 p.2],.int .i64 y] w fun e w'=>e = .returned (.int .i64 (Li p y))/\Ext w w':=by
 have X:=cB w;obtain ⟨f,aa⟩:=p;simp only at hp hq;unfold Li;obtain ⟨N,rfl⟩:=Int.eq_ofNat_of_zero_le hq.1;rw [show ((N:Int)+1).toNat=N+1 by omega];have HS:=Z2 (fun n=>NJ f y O.1 n);have HP:=Z2 (fun n=>NI f y O.1 n);have HC:=Z2 (fun x h w1=>M5 x y h O w1);have U:=Z2 (fun n=>show Lh f y (n+1)=(if f<=n then min ((Lh f y n).1+(Lh f y n).2) 1099511627777 else (Lh f y n).1,FO (Lh f y n).2 y) from rfl);refine Ad func55 ntmps55 rfl rfl ?_;refine cS (FI [_,_] rfl rfl rfl ?_);intro b1 w2 M;have E:=M.blk;dsimp only at E;have x5:=M.ext;have p6:=M.pos;have z7:=M.size;have X:=X.ext x5;refine C1 Pa (cN (C1 Pa (C1 Pa (cT (Ah (cS (C1 Pf (C1 (Pl E) (C1 V7 (C1 Mv (cT ?_)))))))))));refine At ?_;refine AK (ι:=Nat) (fun j=>[(1,.int .i64 y),(2,.pointer (some ⟨b1,0,none⟩)),(5,.int .i64 (Lh f y j).1),(6,.int .i64 (Lh f y j).2),(10,.int .i64 ((N:Int)+1)),(11,.int .i64 j)])
  (fun j w'=>j<=N+1/\Blk w' b1 [.int .i64 f,.int .i64 N]/\Ext w w') (fun j=>N+1-j) 0 sB ⟨aE _,E,X⟩ ?_
 clear E X;rintro j w1 ⟨hj,E,X⟩;by_cases ab:j<N+1
 . have hs:=HS.out j;have F:=HP.out j;have L:=U.out j;have V:=Z2 (HC.out _ F);generalize Lh f y j=r at *;obtain ⟨r1,r2⟩:=r;simp only at hs F L V;clear U;by_cases hl:f<=(j:Int)
   . rw [AX hl] at L;refine eK ?_;refine C1 (WY rfl rfl rfl) ?_;refine eK ?_;refine cC rfl (V.out _) ?_;rintro _ ac ⟨⟨⟩,Y⟩;revert E X;refine eY Y ?_;intro ad E X;refine C1 Pa (Ai (Af (Ae (Aj (C1 V7 (C1 Mv (Ai ?_)))))));exact Ay (j+1) (by rw [L];(refine Az rfl ?_;refine Az rfl ?_;refine Az rfl ?_;refine Az rfl ?_;refine Az rfl ?_;refine Az rfl ?_;exact Cj)) ⟨Aa,Ag,X⟩ Aa
   . rw [AC hl] at L;refine eK ?_;refine cC rfl (V.out _) ?_;rintro _ ae ⟨⟨⟩,Z⟩;revert E X;refine eY Z ?_;intro af E X;refine C1 Pa (Ai (Af (Ae (Aj (C1 V7 (C1 Mv (Ai ?_)))))));exact Ay (j+1) (by rw [L];(refine Az rfl ?_;refine Az rfl ?_;refine Az rfl ?_;refine Az rfl ?_;refine Az rfl ?_;refine Az rfl ?_;exact Cj)) ⟨Aa,Ag,X⟩ Aa
 . obtain rfl:j=N+1:=by omega
   clear HS HP U HC;generalize (Lh f y (N+1)).1=s at *;refine eK ?_;refine xR ?_;exact ⟨rfl,X⟩
def KK:Shape (List Int) where
 sz:=1
 rep:=fun w S xs cs=> ∃a c,cs=[.slice a xs.length c]/\Rows S w (ints xs) a
 len:=fun ⟨_,_,h,_⟩=>by rw [h];rfl
 one:=fun ⟨_,_,h,_⟩=>by rw [h];rfl
 mono:=fun ⟨a,c,h,h2⟩ hS hc=>⟨a,c,h,h2.move hS (fun b o v hb h=>hc b o v hb h)⟩
 lt:=fun ⟨a,c,h,h2⟩=>⟨a,c,h,h2.lt2⟩
def OwnQ.ics {w:wD} {R:nP} {B e:Nat} {a:oA} {len cap:Nat} {xs:List (List Int)} {S:nP} (h:OwnQ KK w R B e (.slice a len cap) xs) (M : ∀b,R b->S b) (N : ∀b,B<=b->b<w.heap.size->S b):ICs S w xs a:=by
 by_cases E:xs=[]
 . exact Z6 E
 . obtain ⟨g,F,L,O,U,f⟩:=h.rows E;simp only [aS] at L;obtain ⟨rfl,-,-⟩:=L;refine aA ⟨g,0,rfl,N g O U,fun i x V=>?_⟩;obtain ⟨cs,X,a,c,rfl,Y⟩:=f i x V;exact ⟨a,c,by simpa [KK] using X,Y.wide M⟩
def YB {S:nP} {w:wD} {xs:List Int} {a:oA} (h:Rows S w (ints xs) a):IntsAt w xs a:=h.wide fun _ _=>trivial
def OwnI.rowsI {w:wD} {B:Nat} {a:oA} {n c:Nat} {xs:List Int} {S:nP} (h:OwnI w B (.slice a n c) xs) (F : ∀k,(bI a n c).ownBlock=some k->S k):Rows S w (ints xs) a:=by
 rcases h.open with ⟨h1,f⟩|⟨g,cap,M,h1,f,L,N,O⟩
 . subst f;exact Z6 rfl
 . simp only [aS] at h1;obtain ⟨rfl,-,-⟩:=h1;refine aA ⟨g,0,rfl,F g rfl,fun i v E=>?_⟩;exact (L.blk.row) i v (by rw [bG];exact E;exact (List.getElem?_eq_some_iff.1 E).1)
def CloneS (xs:List Int) (w:wD):Ending->wD->Prop:=fun e w'=> ∃a c,e = .returned (.slice a xs.length c)/\Rows (fun b=>w.heap.size<=b/\b<w'.heap.size) w' (ints xs) a/\Ext w w'
def CloneS.ret {xs:List Int} {w w':wD} {e:Ending} (h:CloneS xs w e w') : ∃v,e = .returned v:=by
 obtain ⟨_,_,h,-⟩:=h;exact ⟨_,h⟩
def Va (xs:List Int) (f:xs.length<=1000000) (S:nP) (a:oA) (c:Nat) (w:wD) (h:Rows S w (ints xs) a):Calls prog 88 #[.slice a xs.length c] w (CloneS xs w):=
 (Uu xs f a c w (YB h)).mono fun _ _ ⟨a,c,h1,h2,h3,h4⟩=>⟨a,c,h1,h2.rowsI h3,h4⟩
def ZJ {α:Type} (c:α->Value) (S:nP) (w:wD) (l:List α) (a:oA):Prop:=Arr S 1 (fun w b o x=>Row w ⟨b,o,none⟩ [c x]) w l a
section
variable {α:Type} {c:α->Value} {S S' T:nP} {w w':wD} {l:List α} {a:oA}
def WZ (h:ZJ c S w l a) (E:l≠[]) : ∃b o,a=some ⟨b,o,none⟩/\S b/\Row w ⟨b,o,none⟩ (l.map c):=by
 obtain ⟨b,o,h1,F,L⟩:=h.get (List.length_pos_iff.2 E);refine ⟨b,o,h1,F,fun i v f=>?_⟩;rw [List.getElem?_map,Option.map_eq_some_iff] at f;obtain ⟨x,M,rfl⟩:=f;have:=(L i x M).at0 rfl;rw [addr_addE,show o+i=o+i*1 by omega];exact this
where addr_addE {b o i:Nat}:(⟨b,o,none⟩:Addr).add i=⟨b,o+i,none⟩:=by unfold bJ;by_cases N:i=0<;>simp [N]
end
def EA {α:Type} (c:α->Value) (h1 : ∀x,dA (c x)=true):Shape α where
 sz:=1
 rep:=fun _ _ v cs=>cs=[c v]
 len:=fun h=>by rw [h];rfl
 one:=fun h=>by rw [h];simp [h1]
 mono:=fun h _ _=>h
 lt:=fun h=>h
def OwnQ.els {α:Type} {c:α->Value} {h1 : ∀x,dA (c x)=true} {w:wD} {R:nP} {B e:Nat} {a:oA} {len cap:Nat} {xs:List α} {S:nP} (h:OwnQ (EA c h1) w R B e (.slice a len cap) xs) (M : ∀b,B<=b->b<w.heap.size->S b):ZJ c S w xs a:=by
 by_cases E:xs=[]
 . exact Z6 E
 . obtain ⟨g,F,L,N,O,f⟩:=h.rows E;simp only [aS] at L;obtain ⟨rfl,-,-⟩:=L;refine aA ⟨g,0,rfl,M g N O,fun i x U=>?_⟩;obtain ⟨cs,V,rfl⟩:=f i x U;simpa [EA] using V
abbrev Zy (i:Int):Value:=.int .i64 i
abbrev LJ:Shape Int:=EA Zy (fun _=>rfl)
abbrev LK:Shape lB:=EA str (fun _=>rfl)
def Da (vs:List VD):List (List Int):=vs.map fun v=>aT (DX v).toNat 0
def ArrS.blkJ {C D g:Nat} {w:wD} {xs:List Int} (h:ArrS LJ C D w g xs):Blk w g (ints xs):=by
 obtain ⟨f,h1,M,F⟩:=h.ex;have e:f.flatten=ints xs:=by
  have:f=xs.map fun x=>[Value.int .i64 x]:=by
   apply List.ext_getElem? ;intro i;rw [List.getElem?_map];rcases aL i xs.length with E|E
   . have L:f[i]? = some f[i]:=Z0 Aa;have:=F i xs[i] f[i] (Z0 E) L;rw [L,Z0 E];exact congrArg some this
   . rw [aN E,aN Aa];rfl
  rw [this];unfold ints;clear this h1 M F h
  induction xs with
  | nil=>rfl
  | cons x xs N=>simp [N]
 rwa [e] at h1
def ArrS.rowsJ {C D g:Nat} {w:wD} {xs:List Int} (h:ArrS LJ C D w g xs) {S:nP} (f:S g):Rows S w (ints xs) (some ⟨g,0,none⟩):=aA ⟨g,0,rfl,f,h.blkJ.row⟩
def NewSR (vs:List VD) (w:wD):Ending->wD->Prop:=fun e w'=> ∃a c ta tc,e = .returned (.tuple #[.agg #[.slice a vs.length c,.slice ta 0 tc,.slice none 0 0],.int .i64 0])/\ICs (fun b=>w.heap.size<=b/\b<w'.heap.size) w' (Da vs) a/\Ext w w'
def NewSR.ret {vs:List VD} {w:wD} {e:Ending} {w':wD} (h:NewSR vs w e w') : ∃v,e = .returned v:=by
 obtain ⟨_,_,_,_,h,-⟩:=h;exact ⟨_,h⟩
def W0 (l:List VD) (N:l.length<=1000000) (M : ¬Ex l) (S:nP) (a:oA) (c:Nat) (w:wD) (f:VDs S w l a) :
 Calls prog 97 #[.slice a l.length c,.slice none 0 0] w fun e w'=>e = .returned (.tuple #[.agg #[.slice none 0 0,.slice none 0 0,.slice none 0 0],.int .i64 3])/\Ext w w':=by
 have X:=cB w;have O:Hid (∀E,VDs S E l a->Calls prog 141 #[.slice a l.length c] E fun e w'=>e = .returned (.bool false)/\Ext E w'):=Z2 fun E h=>(RS l N S a c E h).mono fun e w' ⟨q,h1,h2,h3⟩=>⟨by rw [h1,show q=false by cases q with|false=>rfl|true=>exact absurd (h2.1 rfl) M],h3⟩
 clear M;refine Ad func97 ntmps97 rfl rfl ?_;refine cS (eA [_,_,_] ?_);intro b1 w2 F U p7 z8;revert f X;refine eE U ?_;intro f X;refine eK ?_;refine cC rfl (O.out _ Ag) ?_;rintro _ V ⟨⟨⟩,Y⟩;revert F f X;refine eY Y ?_;intro Z F f X;refine eK ?_;refine C1 (xB [_,_,_]) (eS [_,_,_] F ?_);intro aa ab L ac;clear F f;have X:=X.fr L Aa;refine C1 Pa (cT (AY (Ar ?_)));refine E1 rfl Ac rfl rfl rfl Ag rfl rfl ?_;exact ⟨rfl,X⟩
def W4 (l:List VD) (hv:Ex l) (S:nP) (a:oA) (c:Nat) (w:wD) (L:VDs S w l a) :
 Calls prog 97 #[.slice a l.length c,.slice none 0 0] w (NewSR l w):=by
 have X:=cB w;replace L:VDs (· < w.heap.size) w l a:=L.lt2.wide fun _ h=>h.2
 have hl:l.length<=1000000:=by have:=hv.1;omega
 have HV:Hid (∀Z,VDs (· < w.heap.size) Z l a->Calls prog 141 #[.slice a l.length c] Z fun e w'=>e = .returned (.bool true)/\Ext Z w'):=Z2 fun Z h=>(RS l hl (· < w.heap.size) a c Z h).mono fun e w' ⟨q,h1,h2,h3⟩=>⟨by rw [h1,h2.2 hv],h3⟩
 have HN:Hid (∀Z,Calls prog 88 #[.slice none 0 0] Z (CloneS [] Z)):=Z2 fun Z=>Va [] Bn (fun _=>True) none 0 Z (Z6 rfl)
 have hz:(Da l).length=l.length:=by simp [Da]
 refine Ad func97 ntmps97 rfl rfl ?_;refine cS (eA [_,_,_] ?_);intro b1 w2 U x6 p7 z8;revert X L;refine eE x6 ?_;intro X L;refine eK ?_;refine cC rfl (HV.out _ Ag) ?_;rintro _ bv ⟨⟨⟩,x9⟩;revert U X L;refine eY x9 ?_;intro bw U X L;refine eK ?_;refine eQ rfl (HN.out _) ?_;rintro _ bx ⟨am,⟨an,⟨⟨⟩,⟨ai,az⟩⟩⟩⟩;revert U X L;refine eY az ?_;intro bz U X L;refine C1 (xB [_,_,_]) (xA [_,_,_] ?_);intro ao b0 a0;refine eI [_,_,_] a0 ?_;intro ac F a1 b2 b3;revert ai U X L;refine eE a1 ?_;intro ai U X L;refine cT (Ah (cS (C1 Mv (C1 Pz (C1 Mv (cT ?_))))));refine At ?_;refine AK (ι:=Nat) (fun j=>[(4,.pointer (some ⟨b1,0,none⟩)),(6,.pointer (some ⟨ao,0,none⟩)),(20,.slice a l.length c),(21,.int .i64 l.length),(22,.int .i64 j)])
  (fun j w'=> ∃ra rc,j<=l.length/\OwnQ KK w' (fun b=>ac.heap.size<=b) ac.heap.size 130 (.slice ra ((Da l).take j).length rc) ((Da l).take j)/\Blk w' ao [.slice ra ((Da l).take j).length rc,.slice am 0 an,.slice none 0 0]/\Blk w' b1 [.slice none 0 0,.slice none 0 0,.slice none 0 0]/\VDs (· < w.heap.size) w' l a/\Ext w w'/\ac.heap.size<=w'.heap.size)
  (fun j=>l.length-j) 0 sB ⟨none,0,aE _,OwnQ.nil,F,U,L,X,aC _⟩ ?_
 clear F U L X ai;rintro j w3 ⟨ra,rc,hj,f,F,U,L,X,b4⟩;have Y : ∀g',(bI ra ((Da l).take j).length rc).ownBlock=some g'->ac.heap.size<=g'/\g'<w3.heap.size:=fun g' h=>⟨f.ge h,f.lt h⟩
 have a2:((Da l).take j).length<=1000000:=by rw [bB];omega
 by_cases ap:j<l.length
 . have f:=f.ltR;obtain ⟨kb,ko,rfl,kS,hk⟩:=dI L Aa;have rx:=hk j _ (Z0 ap);have aq:=hv.2 _ (Z8 ap);have ar:0<=DX l[j]/\DX l[j]<=16:=by unfold DX;unfold Ky at aq;split<;>omega
   obtain ⟨N,hN⟩:=Int.eq_ofNat_of_zero_le ar.1;have HX:Hid (∀Z,Calls prog 142 #[l[j].val] Z fun e w'=>e = .returned (.int .i64 (N:Int))/\Ext Z w'):=Z2 fun Z=>by rw [<-hN];exact Wp l[j] Z
   have ad:(Da l).take j++[aT N 0]=(Da l).take (j+1):=by
    rw [aD Aa];congr 2;simp only [Da,List.getElem_map,hN,Int.toNat_natCast]
   clear hk aq;have a6:N<=16:=by omega
   clear ar hN;generalize l[j]=x at *;obtain ⟨xn,xk,xl⟩:=x;replace rx:Row w3 ⟨kb,ko+j*3,none⟩ [str xn,.int .u8 xk,.int .i64 xl]:=rx;unfold VD.val at HX;dsimp only at HX;generalize (Da l).take j=ys at *;refine eK ?_;refine xA [_,_,_] ?_;intro b5 b6 a3;refine eI [_,_,_] a3 ?_;intro au O a4 b7 b8;revert U X L rx F f;refine eE a4 ?_;intro U X L rx F f;refine cT (AD (fun wz=>Ext au wz) 6 (.pure 0 (.pure 1 (.pure 2 (.fork 3 (.fork 4 (.fork 5 .tail .none) .none) .none)))) mixed Bo (Al (Ab (Ab (Al (Ab An))))) ?_);intro a5 ae _;have E:(fun wz=>Ext au wz) a5:=ae;simp only at E;have aj:=O;have a7:=U;have a8:=L;have a9:=rx;have ak:=F;have ay:=f;revert O U X L rx F f;refine eY ae ?_;intro ba O U X L rx F f;refine ⟨E,?_⟩;refine Tq rfl Pg (Tq rfl (Db ak) (Tq rfl (xL [_,_,_] (fun wz hz=>(cL aj hz))) ?_));refine tC rfl rfl (HX.out _) ?_;rintro _ bb ⟨⟨⟩,av⟩;revert E O U X L rx F f;refine eY av ?_;intro bc E O U X L rx F f;refine ⟨E,?_⟩;refine A1 rfl (JH (sh:=LJ) (C:=0) (D:=0) (N:=N) (z:=0) Ac Ci rfl rfl rfl rfl Bo rfl rfl Aa (fun _ _=>rfl)) rfl ?_ aFh A4;rintro _ bd ⟨be,⟨rfl,⟨V,⟨bf,⟨bg,af⟩⟩⟩⟩⟩;have bh:=af.size;revert E O U X L rx F f;refine eE af ?_;intro E O U X L rx F f;refine ⟨E,?_⟩;refine A1 rfl (xS [_]) rfl ?_ aFh A4;rintro _ bi ⟨bj,rfl,aa,bk⟩;have ab:=aa.blk;have aw:=aa.ext;have bl:=aa.pos;have bm:=aa.size;revert V E O U X L rx F f;refine eE aw ?_;intro V E O U X L rx F f;refine ⟨E,?_⟩;refine AE rfl (Eb (R:=fun b=>ac.heap.size<=b) (sh:=KK) (z:=aT N 0) Ac Ci rfl rfl rfl rfl Bo rfl rfl rfl Ag (fun _ h=>by exact h.1) (cQ Ag) ⟨_,_,by rw [List.length_replicate],ArrS.rowsJ Ag ⟨Aa,fun e=>by have:=Y _ e;omega⟩⟩ Aa Aa rfl ?_);rintro bn ax bo ag bp bq M;have br:=M.size;have ab:=cH ab M (fun e=>by have:=Y _ e;omega);have V:=ArrS.fr V M (fun k hk=>by have:=Y _ hk;omega);have O:=cH O M (fun e=>by have:=Y _ e;omega);have U:=cH U M (fun e=>by have:=Y _ e;omega);have X:=dH X M (fun k hk=>by have:=Y _ hk;omega);have L:=dJ L M (fun b hb hT=>by have:=Y _ hT;(try dsimp only at hb);omega);clear rx;have F:=cH F M (fun e=>by have:=Y _ e;omega)
   clear f M;refine C1 Pg (eV [_] [_,_,_] F ?_);intro bs bt ah bu;have ag:=OwnQ.fr ag ah (fun k hk=>⟨fun h=>by (try dsimp only at hk h);omega,fun e=>by have:=OwnQ.ge Ag e;(try dsimp only at hk);omega⟩);revert ab V O U X L;refine eF ah ?_;intro ab V O U X L;refine Ai (Af (Ae (Aj (C1 V7 (C1 Mv (Ai ?_))))));exact Ay (j+1) sB ⟨some ⟨_,0,none⟩,_,Aa,by rw [<-ad];assumption,by rw [<-ad];assumption,U,L,X,Aa⟩ Aa
 . obtain rfl:j=l.length:=by omega
   have et:(Da l).take l.length=Da l:=by rw [<-hz,aH]
   rw [et] at f F;clear Y a2;refine eK ?_;refine eS [_,_,_] U ?_;intro b9 ca al cb;revert L X;refine eF al ?_;intro L X;have f:=OwnQ.fr f al (fun k hk=>⟨fun h=>by (try dsimp only at hk h);omega,fun e=>by have:=OwnQ.ge Ag e;(try dsimp only at hk);omega⟩);have F:=F.fr al Aa;refine C1 Pa (cT (AY ?_));refine E1 rfl Ac rfl rfl rfl Ag rfl rfl ?_;refine ⟨ra,rc,am,an,by rw [hz],?_,X⟩;exact f.ltR.ics (fun b h=>⟨Aa,Aa⟩) (fun b h1 h2=>⟨Aa,h2⟩)
section
variable {P:Program} {n:Nat} {l:Sl} {S:wD->Prop} {tab:Tab} {zt:Em} {ty t e sz:Nat} {sE:Sk}
def LL {x y z:Operand} {a b c z0 E z2:Value} (T:TabOk P tab) (Z:Cy P zt) (F:AB tab t=some (.array 3 e,sz)) (L:AB tab e=some (sE,1)) (M:CN zt t=some [z0,E,z2])
 (N:ev l x=some a) (O:ev l y=some b) (U:ev l z=some c) (ca:a.cells = #[a]) (V:b.cells = #[b]) (X:c.cells = #[c]):By P n l S (.build t #[(0,x),(1,y),(2,z)]) ty (.agg #[a,b,c]):=by
 unfold By;intro s w Y pos after g f _;have hu:P.underlying t=some (.array 3 e):=(T _ _ _ F).under;obtain ⟨i0,v0,k1,k2,k3⟩:=EW Z M;obtain ⟨ie,j1,j2⟩:=(T _ _ _ L).info;have h:v0.cells = #[z0,E,z2]:=k3;have hb:P.built t [(0,a),(1,b),(2,c)]=some #[a,b,c]:=by
  unfold Program.built;simp only [k1,hu,k2,j1];simp [Instr.fill,j2,ca,V,X,h]
 have:=run_build w t #[(0,a),(1,b),(2,c)] _ hb;simp only [execOp,aF];rw [show (#[(0,x),(1,y),(2,z)]:Array (Nat×Operand)).map (fun p=>match p with|(i,x)=>(i,s.eval x)) = #[(0,a),(1,b),(2,c)] by simp [f.ev N,f.ev O,f.ev U],this];rfl
def LM {k:IntKind} {i:Int} {m:Nat} {x y:Operand} {vs:lV} {v:Value} (T:TabOk P tab) (E:AB tab t=some (.array m e,sz)) (f:AB tab e=some (sE,1)) (F:sE.agg=false) (L:ev l x=some (.agg vs.toArray)) (M:ev l y=some (.int k i)) (N:0<=i) (h1:i<m) (O:vs[i.toNat]? = some v) :
 By P n l S (.index t x y) ty v:=by
 unfold By;intro s w U pos after g h _;have V:P.underlying t=some (.array m e):=(T _ _ _ E).under;have X:(Instr.index t (.agg vs.toArray) (.int k i)).run P w = .ok v w:=by
  simp only [Instr.index,asIntOf,aF,aO,aB,AF V];simp only [N,h1,and_self,if_true,aF,CV (T _ _ _ f),aB,part,DK (T _ _ _ f),F];simp [O]
 simp [execOp,h.ev L,h.ev M,X]
end
def Ic:Shape (Int×Int) where
 sz:=2
 rep:=fun _ _ p cs=>cs=[.int .i64 p.1,.int .i64 p.2]
 len:=fun h=>by rw [h];rfl
 one:=fun h=>by rw [h];rfl
 mono:=fun h _ _=>h
 lt:=fun h=>h
def Zb (w:wD) (b o:Nat) (p:Int×Int):Prop:=Row w ⟨b,o,none⟩ [.int .i64 p.1,.int .i64 p.2]
def Bds (w:wD) (l:List (Int×Int)) (a:oA):Prop:=Arr (fun _=>True) 2 Zb w l a
def Bds.ext {w w':wD} {l:List (Int×Int)} {a:oA} (h:Bds w l a) (x:Ext w w'):Bds w' l a:=h.mono aFh (fun _ _ _ _ _ h=>dF h x)
instance {w w':wD} {l:List (Int×Int)} {a:oA}:LfE w w' (Bds w l a) (Bds w' l a):=⟨fun x h=>Bk.Bds.ext h x⟩
def OwnQ.bds {w:wD} {R:nP} {B e:Nat} {a:oA} {len cap:Nat} {xs:List (Int×Int)} (h:OwnQ Ic w R B e (.slice a len cap) xs):Bds w xs a:=by
 by_cases E:xs=[]
 . exact Z6 E
 . obtain ⟨g,F,L,O,U,f⟩:=h.rows E;simp only [aS] at L;obtain ⟨rfl,-,-⟩:=L;refine aA ⟨g,0,rfl,trivial,fun i x M=>?_⟩;obtain ⟨cs,N,rfl⟩:=f i x M;simpa [Ic,Zb] using N
def LensR (l:List (Int×Int)) (w:wD):Ending->wD->Prop:=fun e w'=> ∃a c,e = .returned (.tuple #[.slice a l.length c,.bool true])/\Bds w' l a/\Ext w w'
def LensR.ret {l:List (Int×Int)} {w:wD} {e:Ending} {w':wD} (h:LensR l w e w') : ∃v,e = .returned v:=by
 obtain ⟨_,_,h,-⟩:=h;exact ⟨_,h⟩
def Tu (vs:List VD) (hl:vs.length<=1000000) (b:BoxV) (V : ¬(b.ok/\Ex vs)) (S:nP) (a:oA) (c:Nat) (w:wD) (L:VDs S w vs a) :
 Calls prog 53 #[.slice a vs.length c,.agg #[.int .i64 b.v,.int .i64 b.l,.int .i64 b.i]] w fun e w'=>e = .returned (.tuple #[.slice none 0 0,.bool false])/\Ext w w':=by
 have X:=cB w;obtain ⟨f,E,F⟩:=b;simp only [BoxV.ok] at V;have HN:Hid (Ex vs \/ ∀O,VDs S O vs a->Calls prog 97 #[.slice a vs.length c,.slice none 0 0] O fun e w'=>e = .returned (.tuple #[.agg #[.slice none 0 0,.slice none 0 0,.slice none 0 0],.int .i64 3])/\Ext O w'):=
  Z2 (by by_cases h:Ex vs;exact Z6 h;exact aA fun O h1=>W0 vs hl h S a c O h1)
 have N:(0<=f/\f<=1000)->(0<=E/\E<=1000)->(0<=F/\F<=1000) -> ¬Ex vs:=fun h1 h2 h3 h=>V ⟨⟨h1,h2,h3⟩,h⟩
 clear V;refine Ad func53 ntmps53 rfl rfl ?_;refine cS (FI [_,_,_] rfl rfl rfl ?_);intro b1 w2 U;have M:=U.blk;dsimp only at M;have x5:=U.ext;have p6:=U.pos;have z7:=U.size;revert L X;refine eE x5 ?_;intro L X;refine eK ?_;refine C1 (LL Ac Ci rfl rfl rfl rfl rfl rfl rfl rfl rfl) (C1 Mv (cT ?_));refine At ?_;refine AK (ι:=Nat) (fun j=>[(0,.slice a vs.length c),(3,.pointer (some ⟨b1,0,none⟩)),(4,.slice none 0 0),(5,.bool false),(19,.agg #[.int .i64 f,.int .i64 E,.int .i64 F]),(20,.int .i64 j)])
  (fun j w'=>j<=3/\(0<j->0<=f/\f<=1000)/\(1<j->0<=E/\E<=1000)/\(2<j->0<=F/\F<=1000)/\Blk w' b1 [.int .i64 f,.int .i64 E,.int .i64 F]/\VDs S w' vs a/\Ext w w') (fun j=>3-j) 0 sB ⟨Aa,Aa,Aa,Aa,M,L,X⟩ ?_
 clear M L X;rintro j O ⟨hj,o1,o2,o3,M,L,X⟩;by_cases af:j<3
 . obtain ⟨x,hx,q1,q2,q3⟩ : ∃x,[Value.int .i64 f,.int .i64 E,.int .i64 F][((j:Int)).toNat]? = some (.int .i64 x)/\(j=0->x=f)/\(j=1->x=E)/\(j=2->x=F):=by
    rw [Int.toNat_natCast];rcases (show j=0\/j=1\/j=2 by omega) with rfl|rfl|rfl
    . exact ⟨f,rfl,fun _=>rfl,fun h=>by omega,fun h=>by omega⟩
    . exact ⟨E,rfl,fun h=>by omega,fun _=>rfl,fun h=>by omega⟩
    . exact ⟨F,rfl,fun h=>by omega,fun h=>by omega,fun _=>rfl⟩
   focus
    refine eK ?_;refine C1 (LM (vs:=[.int .i64 f,.int .i64 E,.int .i64 F]) Ac rfl rfl rfl rfl rfl Aa Aa hx) ?_;refine eK ?_;refine Dw rfl rfl rfl (fun Y=>?_) (fun Y=>?_);refine eK ?_;refine xT ?_;rotate_left;refine eK ?_;refine AN rfl (fun Z=>?_) (fun Z=>?_);refine eK ?_;refine xT ?_;rotate_left;refine Am (Af (Ae (Aj (C1 V7 (C1 Mv (Ai ?_))))));rotate_left
   . exact ⟨rfl,X⟩
   . exact ⟨rfl,X⟩
   . exact Ay (j+1) sB ⟨Aa,fun _=>by omega,fun _=>by omega,fun _=>by omega,Ag,Ag,X⟩ Aa
 . obtain rfl:j=3:=by omega
   refine eK ?_;refine cC rfl ((HN.out.resolve_left (N Aa Aa Aa)) _ Ag) ?_;rintro _ ag ⟨⟨⟩,aa⟩;revert M L X;refine eY aa ?_;intro ah M L X;refine eK ?_;refine xA [_,_,_] ?_;intro ai aj ab;refine eI [_,_,_] ab ?_;intro ak al ac ad ae;revert M L X;refine eE ac ?_;intro M L X;refine eK ?_;refine xT ?_;exact ⟨rfl,X⟩
def Tv (vs:List VD) (b:BoxV) (Z:b.ok) (hv:Ex vs) (S:nP) (a:oA) (c:Nat) (w:wD) (L:VDs S w vs a) :
 Calls prog 53 #[.slice a vs.length c,.agg #[.int .i64 b.v,.int .i64 b.l,.int .i64 b.i]] w (LensR (Fy vs b) w):=by
 have X:=cB w;replace L:VDs (· < w.heap.size) w vs a:=L.lt2.wide fun _ h=>h.2
 have hl:vs.length<=1000000:=by have:=hv.1;omega
 have HN:=Z2 (fun w1 (h:VDs (· < w.heap.size) w1 vs a)=>W4 vs hv (· < w.heap.size) a c w1 h);have HL:Hid (∀j (hj:j<vs.length),((DX vs[j]).toNat:Int)=DX vs[j]/\Kz b vs[j]=if vs[j].kind=3 then (0,b.l) else (DX vs[j],DX vs[j])):=Z2 fun j hj=>⟨by
  have au:=hv.2 _ (Z8 hj);unfold Ky at au;unfold DX;split<;>omega,rfl⟩
 have hz:(Da vs).length=vs.length:=by simp [Da]
 unfold Fy;have aa : ∀j (hj:j<vs.length),(vs.map (Kz b)).take j++[Kz b vs[j]]=(vs.map (Kz b)).take (j+1):=fun j hj=>by
  rw [aD (by simpa using hj),List.getElem_map]
 have av:(vs.map (Kz b)).length=vs.length:=by simp
 obtain ⟨⟨o1,o2⟩,⟨o3,o4⟩,o5,o6⟩:=Z;obtain ⟨bv,bl,bi⟩:=b;simp only at o1 o2 o3 o4 o5 o6 HL;generalize bo:vs.map (Kz ⟨bv,bl,bi⟩)=ms at *;have HV:=Z2 hv;clear hv;refine Ad func53 ntmps53 rfl rfl ?_;refine cS (FI [_,_,_] rfl rfl rfl ?_);intro b1 w2 n3;have M:=n3.blk;dsimp only at M;have x5:=n3.ext;have p6:=n3.pos;have z7:=n3.size;revert X L;refine eE x5 ?_;intro X L;refine eK ?_;refine C1 (LL Ac Ci rfl rfl rfl rfl rfl rfl rfl rfl rfl) (C1 Mv (cT ?_));refine At ?_;refine AK (ι:=Nat) (fun j=>[(0,.slice a vs.length c),(3,.pointer (some ⟨b1,0,none⟩)),(4,.slice none 0 0),(5,.bool false),(19,.agg #[.int .i64 bv,.int .i64 bl,.int .i64 bi]),(20,.int .i64 j)])
  (fun j w'=>j<=3/\Blk w' b1 [.int .i64 bv,.int .i64 bl,.int .i64 bi]/\VDs (· < w.heap.size) w' vs a/\Ext w w') (fun j=>3-j) 0 sB ⟨Aa,M,L,X⟩ ?_
 clear M L X;rintro j w1 ⟨hj,M,L,X⟩;by_cases bp:j<3
 . obtain ⟨x,hx,q1,q2⟩ : ∃x,[Value.int .i64 bv,.int .i64 bl,.int .i64 bi][((j:Int)).toNat]? = some (.int .i64 x)/\0<=x/\x<=1000:=by
    rw [Int.toNat_natCast];rcases (show j=0\/j=1\/j=2 by omega) with rfl|rfl|rfl
    . exact ⟨bv,rfl,o1,o2⟩
    . exact ⟨bl,rfl,o3,o4⟩
    . exact ⟨bi,rfl,o5,o6⟩
   refine eK ?_;refine C1 (LM (vs:=[.int .i64 bv,.int .i64 bl,.int .i64 bi]) Ac rfl rfl rfl rfl rfl Aa Aa hx) (C1 Pa (cN (C1 Mv (C1 V3 (C1 Mv (GZ (C1 Mv (GZ (C1 V5 (C1 Mb (cT ?_)))))))))));refine F5 (Am (Af (Ae (Aj (C1 V7 (C1 Mv (Ai ?_)))))));exact Ay (j+1) sB ⟨Aa,Ag,Ag,X⟩ Aa
 . obtain rfl:j=3:=by omega
   have bq:=M.lt;refine eK ?_;refine eQ rfl (HN.out _ Ag) ?_;rintro _ br ⟨ai,⟨aw,⟨a2,⟨a3,⟨⟨⟩,⟨ac,ax⟩⟩⟩⟩⟩⟩;revert M L X;refine eY ax ?_;intro bs M L X;refine eK ?_;refine xA [_,_,_] ?_;intro bt a4 aj;refine eI [_,_,_] aj ?_;intro Y ag ak a5 a6;revert ac M L X;refine eE ak ?_;intro ac M L X;refine C1 Pa (cT (Ah (cS (C1 Mv (C1 V2 (cT (VQ (Am (Ae (cS (C1 Pa ?_)))))))))));refine cT (Ah (cS (C1 Pg (C1 (Pl ag) (C1 Pz (C1 Mv (cT ?_)))))));refine At ?_;refine AK (ι:=Nat×oA×Nat) (fun x=>[(0,.slice a vs.length c),(3,.pointer (some ⟨b1,0,none⟩)),(10,.slice x.2.1 (ms.take x.1).length x.2.2),(38,.slice ai vs.length aw),(39,.int .i64 vs.length),(40,.int .i64 x.1)])
    (fun x w'=>x.1<=vs.length/\OwnQ Ic w' (fun _=>False) Y.heap.size 109 (.slice x.2.1 (ms.take x.1).length x.2.2) (ms.take x.1)/\Blk w' b1 [.int .i64 bv,.int .i64 bl,.int .i64 bi]/\ICs (· < Y.heap.size) w' (Da vs) ai/\VDs (· < w.heap.size) w' vs a/\Ext w w'/\Y.heap.size<=w'.heap.size)
    (fun x=>vs.length-x.1) (0,none,0) sB ⟨aE _,OwnQ.nil,M,ac.wide (fun b h=>by omega),L,X,aC _⟩ ?_
   clear M ac L X ag;rintro ⟨j,ra,rc⟩ w3 ⟨ay,f,M,E,L,X,bu⟩;simp only at ay f;have F : ∀g',(bI ra (ms.take j).length rc).ownBlock=some g'->Y.heap.size<=g'/\g'<w3.heap.size:=fun g' h=>⟨f.ge h,f.lt h⟩
   have bw:(ms.take j).length<=1000000:=by rw [bB];omega
   by_cases ab:j<vs.length
   . obtain ⟨kb,ko,rfl,kS,hk⟩:=dI L Aa;have rx:=hk j _ (Z0 ab);obtain ⟨db,bx,rfl,dS,hd⟩:=E.get (by intro e;rw [e] at hz;simp at hz;omega);obtain ⟨xa,xc,ry,-⟩:=hd j _ (Z0 (show j<(Da vs).length by omega));obtain ⟨f1,f2⟩:=HL.out j ab;have ah:((Da vs)[j]'(by omega)).length=(DX vs[j]).toNat:=by simp [Da]
     rw [ah] at ry;have hn:=aa j ab;rw [f2] at hn;clear hk hd ah f2 HL aa;rw [<-f1] at hn;clear f1;generalize (DX vs[j]).toNat=N at *;generalize vs[j]=x at *;obtain ⟨xn,xk,xl⟩:=x;replace rx:Row w3 ⟨kb,ko+j*3,none⟩ [str xn,.int .u8 xk,.int .i64 xl]:=rx;simp only at hn;by_cases al:xk=3
     . rw [AX al] at hn;generalize ms.take j=ys at *;refine eK ?_;refine C1 (Pw rx) ?_;refine eK ?_;refine C1 (xB [_,_]) ?_;refine Ax (xS [_,_]) rfl ?_ aFh;rintro _ bz ⟨b0,rfl,ad,b2⟩;have am:=ad.blk;have az:=ad.ext;have b3:=ad.pos;have b4:=ad.size;revert M X L E ry rx f;refine eE az ?_;intro M X L E ry rx f;refine Eb (R:=fun _=>False) (sh:=Ic) (z:=(0,bl)) Ac Ci rfl rfl rfl rfl Bo rfl rfl rfl Ag (fun _ h=>by exact h) (cQ Ag) rfl Aa Aa rfl ?_;rintro b5 an a7 a8 a9 ba O;have bb:=O.size;have am:=cH am O (fun e=>by have:=F _ e;omega);have M:=cH M O (fun e=>by have:=F _ e;omega);have X:=dH X O (fun k hk=>by have:=F _ hk;omega);have L:=dJ L O (fun b Z hT=>by have:=F _ hT;(try dsimp only at Z);omega);have E:=ICs.fr E O (fun b Z hT=>by have:=F _ hT;(try dsimp only at Z);omega);clear ry rx f O;refine C1 Pa (Ai (Af (Ae (Aj (C1 V7 (C1 Mv (Ai ?_)))))));exact Ay (j+1,some ⟨_,0,none⟩,_) (by dsimp only;rw [<-hn];(refine Az rfl ?_;refine Az rfl ?_;refine Az rfl ?_;refine Az rfl ?_;refine Az rfl ?_;refine Az rfl ?_;exact Cj)) ⟨by (try dsimp only);omega,by dsimp only;rw [<-hn];assumption,M,E,L,X,Aa⟩ (by (try dsimp only);omega)
     . rw [AC al] at hn;generalize ms.take j=ys at *;refine eK ?_;refine C1 (Pw rx) ?_;refine eK ?_;refine C1 (xB [_,_]) ?_;refine Ax (xS [_,_]) rfl ?_ aFh;rintro _ b6 ⟨b7,rfl,ae,b8⟩;have ao:=ae.blk;have a0:=ae.ext;have b9:=ae.pos;have ca:=ae.size;revert M X L E ry rx f;refine eE a0 ?_;intro M X L E ry rx f;refine Eb (R:=fun _=>False) (sh:=Ic) (z:=((N:Int),(N:Int))) Ac Ci rfl rfl rfl rfl Bo rfl rfl rfl Ag (fun _ h=>by exact h) (cQ Ag) rfl Aa Aa rfl ?_;rintro cb ap bc bd be bf U;have bg:=U.size;have ao:=cH ao U (fun e=>by have:=F _ e;omega);have M:=cH M U (fun e=>by have:=F _ e;omega);have X:=dH X U (fun k hk=>by have:=F _ hk;omega);have L:=dJ L U (fun b Z hT=>by have:=F _ hT;(try dsimp only at Z);omega);have E:=ICs.fr E U (fun b Z hT=>by have:=F _ hT;(try dsimp only at Z);omega);clear ry rx f U;refine C1 Pa (Ai (Af (Ae (Aj (C1 V7 (C1 Mv (Ai ?_)))))));exact Ay (j+1,some ⟨_,0,none⟩,_) (by dsimp only;rw [<-hn];(refine Az rfl ?_;refine Az rfl ?_;refine Az rfl ?_;refine Az rfl ?_;refine Az rfl ?_;refine Az rfl ?_;exact Cj)) ⟨by (try dsimp only);omega,by dsimp only;rw [<-hn];assumption,M,E,L,X,Aa⟩ (by (try dsimp only);omega)
   . obtain rfl:j=vs.length:=by omega
     rw [show ms.take vs.length=ms by rw [<-av,aH]] at *;refine eK ?_;refine C1 (xB [_,_]) ?_;refine Ax (xS [_,_]) rfl ?_ aFh;rintro _ cc ⟨cd,rfl,af,ce⟩;have aq:=af.blk;have a1:=af.ext;have cf:=af.pos;have cg:=af.size;revert M E L X f;refine eE a1 ?_;intro M E L X f;refine Eb (R:=fun _=>False) (sh:=Ic) (z:=(0,bi)) Ac Ci rfl rfl rfl rfl Bo rfl rfl rfl Ag (fun _ h=>by exact h) (cQ Ag) rfl Aa Aa rfl ?_;rintro ch ar bh bj bk bm V;have bn:=V.size;have aq:=cH aq V (fun e=>by have:=F _ e;omega);have M:=cH M V (fun e=>by have:=F _ e;omega);have E:=ICs.fr E V (fun b Z hT=>by have:=F _ hT;(try dsimp only at Z);omega);have L:=dJ L V (fun b Z hT=>by have:=F _ hT;(try dsimp only at Z);omega);have X:=dH X V (fun k hk=>by have:=F _ hk;omega);clear f V;refine eK ?_;refine xT ?_;exact ⟨_,_,rfl,OwnQ.bds Ag,X⟩
def PU (l:List (Int×Int)) (y:Int) (j:Nat) (h:j<l.length):DS (l.take (j+1)) y=FO (DS (l.take j) y) (Li l[j] y):=by
 unfold DS;rw [aD h,List.foldl_append];rfl
def W5 (vs:List VD) (hl:vs.length<=1000000) (b:BoxV) (S:nP) (a:oA) (c:Nat) (w:wD) (O:VDs S w vs a) :
 Calls prog 27 #[.slice a vs.length c,.agg #[.int .i64 b.v,.int .i64 b.l,.int .i64 b.i]] w fun e w'=>e = .returned (.tuple #[.int .i64 (FY vs b).1,.int .i64 (FY vs b).2])/\Ext w w':=by
 have X:=cB w;by_cases N:b.ok/\Ex vs
 . have HL:=Z2 (fun Y h=>Tv vs b N.1 N.2 S a c Y h);have hb:=Wq N.1 N.2;have al:=SZ vs b;have hy:1<=2*b.v+1/\2*b.v+1<=2001:=by have:=N.1.1;omega
   have Z : ∀j,1<=DS ((Fy vs b).take j) (2*b.v+1)/\DS ((Fy vs b).take j) (2*b.v+1)<=1099511627777:=fun j=>
    MN _ 1 _ hy.1 (fun p hp=>by have:=hb p (List.mem_of_mem_take hp);omega) Aa Aa
   have HS:=Z2 (fun j h=>PU (Fy vs b) (2*b.v+1) j h);unfold FY;rw [AX N];clear N;obtain ⟨E,bl,bi⟩:=b;simp only at hy Z HS HL ⊢;have hE:DS (Fy vs ⟨E,bl,bi⟩) (2*E+1)=DS ((Fy vs ⟨E,bl,bi⟩).take (Fy vs ⟨E,bl,bi⟩).length) (2*E+1):=by rw [aH]
   generalize Fy vs ⟨E,bl,bi⟩=F at *;have HB:=Z2 hb;have H1:=Z2 Z;clear hb Z;refine Ad func27 ntmps27 rfl rfl ?_;refine cS (eB [_,_,_] ?_);intro b1 w2 L x5 p6 z7;revert O X;refine eE x5 ?_;intro O X;refine eK ?_;refine eQ rfl (HL.out _ Ag) ?_;rintro _ ar ⟨a8,⟨c9,⟨⟨⟩,⟨f,ae⟩⟩⟩⟩;revert L O X;refine eY ae ?_;intro au L O X;refine C1 Mv (C1 Px (C1 Px (C1 Pa (C1 Pa (cT (Ah (cS (C1 Mv (C1 Pt (cT (AR rfl ?_)))))))))));refine Am (Ae (cS (C1 Pa (cT (Ah (cS (C1 Mv (C1 Pz (C1 Mv (cT ?_))))))))));have hm:IntKind.wrap .i64 (2*E)=2*E:=aQ _ Aa;have av:=L.lt;refine At ?_;refine AK (ι:=Nat) (fun j=>[(3,.pointer (some ⟨b1,0,none⟩)),(8,.int .i64 (DS (F.take j) (2*E+1))),(19,.slice a8 F.length c9),(20,.int .i64 F.length),(21,.int .i64 j)])
    (fun j w'=>j<=F.length/\Blk w' b1 [.int .i64 E,.int .i64 bl,.int .i64 bi]/\Bds w' F a8/\Ext w w') (fun j=>F.length-j) 0 sB ⟨aE _,L,f,X⟩ ?_
   clear L f X O;rintro j w3 ⟨hj,L,f,X⟩;have h1:=H1.out j;by_cases aa:j<F.length
   . obtain ⟨kb,ko,rfl,-,hk⟩:=dI f Aa;have V:=hk j _ (Z0 aa);have hp:=HB.out _ (Z8 aa);have hq:=HS.out j aa;have af:=Uv hy.1 hp.1 hp.2.1;have HC:=Z2 (fun Y=>PT F[j] (2*E+1) Aa Aa Aa Y);have HP:=Z2 (fun Y=>M5 (DS (F.take j) (2*E+1)) (Li F[j] (2*E+1)) h1 af Y);clear hk;generalize Li F[j] (2*E+1)=q at *;generalize DS (F.take j) (2*E+1)=s at *;generalize F[j]=p at *;obtain ⟨p1,p2⟩:=p;replace V:Row w3 ⟨kb,ko+j*2,none⟩ [.int .i64 p1,.int .i64 p2]:=V;simp only at hp HC;refine eK ?_;refine xA [_,_] ?_;intro aw ax ag;refine eI [_,_] ag ?_;intro ay M ah az a0;revert L X f V;refine eE ah ?_;intro L X f V;refine eK ?_;refine AJ [_,_] Ac rfl rfl rfl M rfl rfl rfl ?_;refine eK ?_;refine C1 (DL rfl rfl hm) (C1 V7 (cC rfl (HC.out _) ?_));rintro _ am ⟨⟨⟩,ai⟩;revert M L X f V;refine eY ai ?_;intro an M L X f V;refine cC rfl (HP.out _) ?_;rintro _ ao ⟨⟨⟩,ac⟩;revert M L X f V;refine eY ac ?_;intro ap M L X f V;refine C1 Pa (Ai (Af (Ae (Aj (C1 V7 (C1 Mv (Ai ?_)))))));exact Ay (j+1) (by rw [hq];(refine Az rfl ?_;refine Az rfl ?_;refine Az rfl ?_;refine Az rfl ?_;refine Az rfl ?_;exact Cj)) ⟨Aa,Ag,Ag,X⟩ Aa
   . obtain rfl:j=F.length:=by omega
     rw [<-hE] at *;generalize DS F (2*E+1)=s at *;by_cases ad:1099511627776<s
     . rw [AX ad];refine eK ?_;refine xT ?_;exact ⟨rfl,X⟩
     . rw [AC ad];refine eK ?_;refine xT ?_;exact ⟨rfl,X⟩
 . have HL:=Z2 (fun Y h=>Tu vs hl b N S a c Y h);rw [show FY vs b=(0,1) by unfold FY;rw [AC N]];clear N;obtain ⟨E,bl,bi⟩:=b;refine Ad func27 ntmps27 rfl rfl ?_;refine cS (FI [_,_,_] rfl rfl rfl ?_);intro a1 a2 U;have ab:=U.blk;dsimp only at ab;have aj:=U.ext;have a3:=U.pos;have a4:=U.size;revert O X;refine eE aj ?_;intro O X;refine eK ?_;refine cC rfl (HL.out _ Ag) ?_;rintro _ a5 ⟨⟨⟩,ak⟩;revert ab O X;refine eY ak ?_;intro aq ab O X;refine eK ?_;refine xT ?_;exact ⟨rfl,X⟩
structure EX.wf (e:EX):Prop where
 name:e.name.length<=9223372036854775807
 g:e.g.wf
 few:e.g.vars.length<=1000000
structure EX.sits (S:nP) (w:wD) (e:EX) (va pa ma:oA) (vc:Nat):Prop where
 g:e.g.sits S w va pa ma
 p:PDsC S w e.g.procs pa
 room:e.g.vars.length<=vc
def EX.sits.ext {S:nP} {w w':wD} {e:EX} {f E F:oA} {L:Nat} (h:e.sits S w f E F L) (x:Ext w w'):e.sits S w' f E F L:=⟨h.g.ext x,h.p.ext x,h.room⟩
instance {S:nP} {w w':wD} {e:EX} {f E F:oA} {L:Nat}:LfE w w' (e.sits S w f E F L) (e.sits S w' f E F L):=⟨fun x h=>Bk.EX.sits.ext h x⟩
def EX.sits.fr {S T:nP} {w w':wD} {e:EX} {f E F:oA} {L:Nat} (h:e.sits S w f E F L) (x:Fr T w w') (M : ∀b,S b -> ¬T b):e.sits S w' f E F L:=⟨h.g.fr x M,h.p.fr x M,h.room⟩
instance {S T:nP} {w w':wD} {e:EX} {f E F:oA} {L:Nat}:LfF T w w' (e.sits S w f E F L) (∀b,S b -> ¬T b) (e.sits S w' f E F L):=⟨fun x s h=>Bk.EX.sits.fr h x s⟩
def EX.sits.ltA {S:nP} {w:wD} {e:EX} {f E F:oA} {L:Nat} (h:e.sits S w f E F L):e.sits (· < w.heap.size) w f E F L:=⟨h.g.ltA,h.p.ltA,h.room⟩
def XZ {g:PG} (E:g.wf) (S:nP) (F:oA) (L:Nat) (f:oA) (U:Nat) (M:oA) (V:Nat) (w:wD) (X:g.sits S w F f M) (N:PDsC S w g.procs f) (O:g.vars.length<=L) :
 Calls prog 25 #[.agg (g.cells F L f U M V).toArray] w fun e w'=>e = .returned (.bool (decide g.acc))/\Ext w w':=
 (Za g E S F L f U M V w X N O).mono fun e w' ⟨q,h1,h2,h3⟩=>⟨by rw [h1];congr 2;cases q;exact (decide_eq_false (fun h=>by cases h2.2 h)).symm;exact (decide_eq_true (h2.1 rfl)).symm,h3⟩
def EN (e:EX) (hw:e.wf) (S:nP) (va:oA) (vc:Nat) (pa:oA) (pc:Nat) (ma:oA) (mc:Nat) (w:wD) (hs:e.sits S w va pa ma vc) :
 Calls prog 12 #[.agg (e.cells va vc pa pc ma mc).toArray] w fun r w'=>r = .returned (.bool (decide e.valid))/\Ext w w':=by
 have X:=cB w;obtain ⟨aa,U,Y⟩:=hw;obtain ⟨L,M,ab⟩:=hs.ltA;clear hs;have HN:=Z2 (fun Z=>GF e.name Z aa);have HC:=Z2 (fun Z h1 V=>XZ U (· < w.heap.size) va vc pa pc ma mc Z h1 V ab);have HE:=Z2 (fun Z h=>W5 e.g.vars Y e.box (· < w.heap.size) va vc Z h);by_cases h1:e.num
 . unfold EX.cells EX.valid;unfold EX.num at h1 ⊢;obtain ⟨en,ep,ef,⟨bv,bl,bi⟩,g⟩:=e;simp only at aa U Y L M ab HN HC HE h1 ⊢;obtain ⟨o1,⟨o2,o3⟩,o4,o5⟩:=h1;rw [o1] at HN;simp only [o1,o2,o3,o4,o5,true_and,and_self];have f:=L.vars;refine Ad func12 ntmps12 rfl rfl ?_;refine cS (eB [_,_,_,_,_,_,_,_,_,_,_,_] ?_);intro b1 w2 N x5 p6 z7;revert X L M f;refine eE x5 ?_;intro X L M f;refine eK ?_;refine cC rfl (HN.out _) ?_;rintro _ w9 ⟨⟨⟩,x8⟩;revert N X L M f;refine eY x8 ?_;intro bc N X L M f;refine C1 Pt (C1 Mv (Ba rfl rfl rfl (rfl) (C1 Pf (Ba rfl rfl rfl (rfl) (C1 (Pl N) (Ba rfl rfl rfl (rfl) (C1 V3 (C1 (BS rfl rfl rfl) (C1 Mv (GZ (C1 Pf ?_)))))))))));refine GZ (C1 (Pl N) (GZ (C1 V5 (C1 Mb (C1 Mv (GZ (C1 Pf (GZ (C1 (Pl N) (GZ (C1 V3 ?_)))))))))));refine C1 Mb (C1 Mv (GZ (C1 Pf (GZ (C1 (Pl N) (GZ (C1 V5 (C1 Mb (cT (F5 (Am ?_)))))))))));refine Ae (Ah ?_);by_cases V:g.acc
   . have HI:=Z2 (fun Z h=>Km U V.1 (· < w.heap.size) va vc pa pc ma mc Z h);rw [<-PG.pinv_eq] at HI;have HD:=Z2 (fun va vc pa pc ma mc Z S h1 ak h3=>XZ (PG.pinv_wf U V.1) S va vc pa pc ma mc Z h1 ak h3);rw [decide_eq_true V] at HC;simp only [V,true_and];clear V U;refine eK ?_;refine cC rfl (HC.out _ Ag Ag) ?_;rintro _ bd ⟨⟨⟩,al⟩;revert N X L M f;refine eY al ?_;intro be N X L M f;refine eK ?_;refine Ax (Bg Bo rfl (HI.out _ Ag) (fun _ _ ⟨_,_,_,_,_,_,h⟩=>⟨_,h.1⟩)) rfl ?_ aFh;rintro _ aw ⟨ax,⟨ay,⟨az,⟨a0,⟨a1,⟨a2,⟨⟨⟩,⟨E,⟨F,⟨a3,ac⟩⟩⟩⟩⟩⟩⟩⟩⟩⟩;revert N X L M f;refine eY ac ?_;intro a4 N X L M f;refine eK ?_;refine xA [_,_,_,_,_,_] ?_;intro a5 a6 ad;refine eI [_,_,_,_,_,_] ad ?_;intro a7 O ae a8 a9;revert E F N X L M f;refine eE ae ?_;intro E F N X L M f;refine C1 Pa (cT (Ah ?_));by_cases h3:g.pinv.acc
     . rw [decide_eq_true h3] at HD;simp only [h3,true_and];generalize g.pinv=u at *;generalize FY g.vars ⟨bv,bl,bi⟩=r at *;obtain ⟨n,k⟩:=r;simp only at HE ⊢;refine eK ?_;refine cC rfl (HD.out _ _ _ _ _ _ _ _ Ag Ag Ag) ?_;rintro _ bf ⟨⟨⟩,am⟩;revert N X L M f O E F;refine eY am ?_;intro bg N X L M f O E F;refine eK ?_;refine cC rfl (HE.out _ Ag) ?_;rintro _ bh ⟨⟨⟩,an⟩;revert N X L M f O E F;refine eY an ?_;intro bj N X L M f O E F;refine C1 Mv (C1 Px (C1 Px (C1 Pa (C1 Pa (cT ?_)))));by_cases hk:k=0
       . subst hk;simp only [true_and];refine eK ?_;refine xR ?_;exact ⟨rfl,X⟩
       . simp only [hk,false_and,decide_false];refine eK ?_;refine xR ?_;exact ⟨rfl,X⟩
     . rw [decide_eq_false h3] at HD;simp only [h3,false_and,decide_false];generalize g.pinv=u at *;refine eK ?_;refine cC rfl (HD.out _ _ _ _ _ _ _ _ Ag Ag Ag) ?_;rintro _ bk ⟨⟨⟩,ao⟩;revert N X L M f O E F;refine eY ao ?_;intro bm N X L M f O E F;refine eK ?_;refine xR ?_;exact ⟨rfl,X⟩
   . rw [decide_eq_false V] at HC;simp only [V,false_and,decide_false];clear V U;refine eK ?_;refine cC rfl (HC.out _ Ag Ag) ?_;rintro _ bn ⟨⟨⟩,ap⟩;revert N X L M f;refine eY ap ?_;intro bo N X L M f;refine eK ?_;refine xR ?_;exact ⟨rfl,X⟩
 . rw [decide_eq_false (fun h=>h1 h.1)];unfold EX.cells;unfold EX.num at h1;obtain ⟨en,ep,ef,⟨bv,bl,bi⟩,g⟩:=e;simp only at aa U Y L M ab HN HC HE h1 ⊢;clear HC HE L M U;cases o1:Bc en
   . rw [o1] at HN;refine Ad func12 ntmps12 rfl rfl ?_;refine cS (eB [_,_,_,_,_,_,_,_,_,_,_,_] ?_);intro bp bq af aq br bs;have X:=X.ext aq;refine eK ?_;refine cC rfl (HN.out _) ?_;rintro _ bt ⟨⟨⟩,ar⟩;revert af X;refine eY ar ?_;intro ba af X;refine eK ?_;refine xR ?_;exact ⟨rfl,X⟩
   . rw [o1] at HN;have V : ¬((1<=ep/\ep<=1000)/\0<=ef/\ef<=1000000):=fun h=>h1 ⟨o1,h⟩
     refine Ad func12 ntmps12 rfl rfl ?_
     focus
      refine cS (eB [_,_,_,_,_,_,_,_,_,_,_,_] ?_);intro bu bw ag au bx bz;have X:=X.ext au;refine eK ?_;refine cC rfl (HN.out _) ?_;rintro _ b0 ⟨⟨⟩,av⟩;revert ag X;refine eY av ?_;intro bb ag X;refine eK ?_;refine Dw rfl rfl rfl (fun ah=>?_) (fun ah=>?_);refine eK ?_;refine xR ?_;rotate_left;refine eK ?_;refine Dw rfl rfl rfl (fun ai=>?_) (fun ai=>?_);refine eK ?_;refine xR ?_;rotate_left;refine eK ?_;refine Dw rfl rfl rfl (fun aj=>?_) (fun aj=>?_);refine eK ?_;refine xR ?_;rotate_left;refine eK ?_;refine xR ?_;rotate_left
     all_goals first|exact ⟨rfl,X⟩|exact absurd Aa V
def N9 (e:EX) (Z:e.wf) (hv:e.valid) (S:nP) (O:oA) (U:Nat) (V:oA) (pc:Nat) (Y:oA) (mc:Nat) (w:wD) (f:e.sits S w O V Y U) :
 Calls prog 22 #[.agg (e.cells O U V pc Y mc).toArray] w (Kl e.g.pinv 0 w):=by
 have X:=cB w;have f:=f.ltA;have HV:=Z2 (fun w1 h=>EN e Z (· < w.heap.size) O U V pc Y mc w1 h);rw [decide_eq_true hv] at HV;have HI:=Z2 (fun w1 h=>Km Z.g hv.2.1.1 (· < w.heap.size) O U V pc Y mc w1 h);rw [<-PG.pinv_eq] at HI;clear Z hv;have F:=f.g;unfold EX.cells at *;generalize e.g.pinv=u at *;refine Ad func22 ntmps22 rfl rfl ?_;refine cS (eB [_,_,_,_,_,_,_,_,_,_,_,_] ?_);intro b1 w2 L x5 p6 z7;revert X f F;refine eE x5 ?_;intro X f F;refine eA [_,_,_,_,_,_] ?_;intro b8 w9 E aa al am;revert L X f F;refine eE aa ?_;intro L X f F;refine eK ?_;refine AJ [_,_,_,_,_,_,_,_,_,_,_,_] Ac rfl rfl rfl L rfl rfl rfl (cC rfl (HV.out _ Ag) ?_);rintro _ an ⟨⟨⟩,ab⟩;revert E L X f F;refine eY ab ?_;intro ao E L X f F;refine eK ?_;refine Ax (Bg Bo rfl (HI.out _ Ag) (fun _ _ ⟨_,_,_,_,_,_,h⟩=>⟨_,h.1⟩)) rfl ?_ aFh;rintro _ ap ⟨af,⟨ag,⟨ah,⟨ai,⟨aj,⟨ak,⟨⟨⟩,⟨M,⟨N,⟨ac,ad⟩⟩⟩⟩⟩⟩⟩⟩⟩⟩;revert E L X f F;refine eY ad ?_;intro aq E L X f F;refine eK ?_;refine eS [_,_,_,_,_,_] E ?_;intro ar au ae av;revert M N L X f F;refine eF ae ?_;intro M N L X f F;refine C1 Pa (cT (AY ?_));refine E1 rfl Ac rfl rfl rfl Ag rfl rfl ?_;exact M4 M N ac X Aa Aa
def W6 (e:EX) (Z:e.wf) (hv : ¬e.valid) (S:nP) (L:oA) (M:Nat) (N:oA) (pc:Nat) (O:oA) (mc:Nat) (w:wD) (f:e.sits S w L N O M) :
 Calls prog 22 #[.agg (e.cells L M N pc O mc).toArray] w fun r w'=>r = .returned (.tuple #[.agg (zeroPG.cells none 0 none 0 none 0).toArray,.int .i64 3])/\Ext w w':=by
 have X:=cB w;have f:=f.ltA;have HV:=Z2 (fun w1 h=>EN e Z (· < w.heap.size) L M N pc O mc w1 h);rw [decide_eq_false hv] at HV;clear Z hv;unfold EX.cells at *;refine Ad func22 ntmps22 rfl rfl ?_;refine cS (eB [_,_,_,_,_,_,_,_,_,_,_,_] ?_);intro b1 w2 E x5 p6 z7;revert X f;refine eE x5 ?_;intro X f;refine eA [_,_,_,_,_,_] ?_;intro b8 w9 F U aa ab;revert E X f;refine eE U ?_;intro E X f;refine eK ?_;refine AJ [_,_,_,_,_,_,_,_,_,_,_,_] Ac rfl rfl rfl E rfl rfl rfl (cC rfl (HV.out _ Ag) ?_);rintro _ ac ⟨⟨⟩,V⟩;revert F E X f;refine eY V ?_;intro ad F E X f;refine eK ?_;refine C1 (xB [_,_,_,_,_,_]) (eS [_,_,_,_,_,_] F ?_);intro ae af Y z22;revert E X f;refine eF Y ?_;intro E X f;refine C1 Pa (cT (AY (Ar ?_)));refine E1 rfl Ac rfl rfl rfl Ag rfl rfl ?_;exact ⟨rfl,X⟩
def PDsC.move {S S':nP} {w w':wD} {l:List PD} {a:oA} (h:PDsC S w l a) (f : ∀b,S b->S' b) (E : ∀b o v,S b->w.cell? ⟨b,o,none⟩=some v->w'.cell? ⟨b,o,none⟩=some v):PDsC S' w' l a:=
 h.mono f (fun b _ _ _ F ⟨L,pc,ba,bc,h1,h2,h3,h4⟩=>⟨L,pc,ba,bc,K8 h1 (fun o v=>E b o v F),h2.move f E,Nd.sits_mono f E _ ba h3,h4⟩)
def EX.sits.move {S S':nP} {w w':wD} {e:EX} {L M f:oA} {N:Nat} (h:e.sits S w L M f N) (E : ∀b,S b->S' b) (F : ∀b o v,S b->w.cell? ⟨b,o,none⟩=some v->w'.cell? ⟨b,o,none⟩=some v):e.sits S' w' L M f N:=
 have O:=h.p.move E F
 ⟨⟨h.g.vars.move E F,O.pds,Nd.sits_mono E F _ f h.g.main⟩,O,h.room⟩
def EX.sits.wide {S S':nP} {w:wD} {e:EX} {f E F:oA} {L:Nat} (h:e.sits S w f E F L) (M : ∀b,S b->S' b):e.sits S' w f E F L:=⟨h.g.wide M,h.p.wide M,h.room⟩
def EX.sits.lt2 {S:nP} {w:wD} {e:EX} {E F f:oA} {L:Nat} (h:e.sits S w E F f L):e.sits (fun b=>S b/\b<w.heap.size) w E F f L:=
 have M:=h.p.lt2
 ⟨⟨h.g.vars.lt2,M.pds,F9 _ f h.g.main⟩,M,h.room⟩
def Zz (S:nP) (w:wD) (b o:Nat) (e:EX):Prop:= ∃va vc pa pc ma mc,Row w ⟨b,o,none⟩ (e.cells va vc pa pc ma mc)/\e.sits S w va pa ma vc
def EXs (S:nP) (w:wD) (l:List EX) (a:oA):Prop:=Arr S 12 (Zz S) w l a
def EXs.ext {S:nP} {w w':wD} {l:List EX} {a:oA} (h:EXs S w l a) (x:Ext w w'):EXs S w' l a:=
 h.mono aFh (fun _ _ _ _ _ ⟨f,vc,pa,pc,ma,mc,h1,h2⟩=>⟨f,vc,pa,pc,ma,mc,h1.ext x,h2.ext x⟩)
instance {S:nP} {w w':wD} {l:List EX} {a:oA}:LfE w w' (EXs S w l a) (EXs S w' l a):=⟨fun x h=>Bk.EXs.ext h x⟩
def EXs.fr {S T:nP} {w w':wD} {l:List EX} {a:oA} (h:EXs S w l a) (x:Fr T w w') (f : ∀b,S b -> ¬T b):EXs S w' l a:=
 h.mono aFh (fun b _ _ _ E ⟨F,vc,pa,pc,ma,mc,h1,h2⟩=>⟨F,vc,pa,pc,ma,mc,h1.fr x (f b E),h2.fr x f⟩)
instance {S T:nP} {w w':wD} {l:List EX} {a:oA}:LfF T w w' (EXs S w l a) (∀b,S b -> ¬T b) (EXs S w' l a):=⟨fun x s h=>Bk.EXs.fr h x s⟩
def EXs.ltA {S:nP} {w:wD} {l:List EX} {a:oA} (h:EXs S w l a):EXs (· < w.heap.size) w l a:=by
 rcases h with h|⟨b,o,h1,Z,f⟩
 . exact Z6 h
 . cases l with
   | nil=>exact Z6 rfl
   | cons p r=>
    obtain ⟨E,F,L,M,N,O,U,-⟩:=f 0 p rfl;refine aA ⟨b,o,h1,Cr (U.at0 rfl),fun i v V=>?_⟩;obtain ⟨E,F,L,M,N,O,X,Y⟩:=f i v V;exact ⟨E,F,L,M,N,O,X,Y.ltA⟩
def EXs.take {S:nP} {w:wD} {l:List EX} {a:oA} (h:EXs S w l a) (n:Nat):EXs S w (l.take n) a:=by
 rcases h with h|⟨b,o,h1,E,F⟩
 . exact Z6 (by rw [h];simp)
 . refine aA ⟨b,o,h1,E,fun i x f=>F i x ?_⟩;rw [List.getElem?_take] at f;split at f
   . exact f
   . cases f
def KL:Shape EX where
 sz:=12
 rep:=fun w S e cs=> ∃va vc pa pc ma mc,cs=e.cells va vc pa pc ma mc/\e.sits S w va pa ma vc
 len:=fun ⟨_,_,_,_,_,_,h,_⟩=>by rw [h];rfl
 one:=fun ⟨_,_,_,_,_,_,h,_⟩=>by rw [h];rfl
 mono:=fun ⟨va,vc,pa,pc,ma,mc,h,h1⟩ hS hc=>⟨va,vc,pa,pc,ma,mc,h,h1.move hS hc⟩
 lt:=fun ⟨va,vc,pa,pc,ma,mc,h,h1⟩=>⟨va,vc,pa,pc,ma,mc,h,h1.lt2⟩
def Gn (l:List EX) (s:lB):Bool:=l.any fun e=>e.name==s
def X0 (l:List EX) (hl:l.length<=1000000) (s:lB) (S:nP) (a:oA) (c:Nat) (w:wD) (f:EXs S w l a) :
 Calls prog 29 #[.slice a l.length c,str s] w fun r w'=>r = .returned (.bool (Gn l s))/\Ext w w':=by
 have X:=cB w;have f:=f.ltA;refine Ad func29 ntmps29 rfl rfl ?_;refine cS (C1 Pa (cT (Ah (cS (C1 Mv (C1 Pz (C1 Mv (cT ?_))))))));refine At ?_;refine AK (ι:=Nat) (fun j=>[(1,str s),(4,.bool false),(7,.slice a l.length c),(8,.int .i64 l.length),(9,.int .i64 j)])
  (fun j w'=>j<=l.length/\Gn (l.take j) s=false/\EXs (· < w.heap.size) w' l a/\Ext w w') (fun j=>l.length-j) 0 sB ⟨aE _,rfl,f,X⟩ ?_
 clear f X;rintro j w1 ⟨hj,M,f,X⟩;by_cases E:j<l.length
 . obtain ⟨kb,ko,rfl,-,hk⟩:=dI f Aa;obtain ⟨va,vc,pa,pc,ma,mc,F,-⟩:=hk j _ (Z0 E);have L:Gn (l.take (j+1)) s=(Gn (l.take j) s||l[j].name==s):=by
    unfold Gn;rw [aD E,List.any_append];simp
   rw [M,Bool.false_or] at L;have N:l[j].name=s->Gn l s=true:=fun h=>by
    unfold Gn;rw [List.any_eq_true];exact ⟨_,Z8 E,by simpa using h⟩
   clear hk;generalize l[j]=e at *;unfold EX.cells at F;by_cases he:e.name=s
   . rw [N he];clear L N;generalize e.name=t at *;refine eK ?_;refine xA [_,_,_,_,_,_,_,_,_,_,_,_] ?_;intro ab ac O;refine eI [_,_,_,_,_,_,_,_,_,_,_,_] O ?_;intro ad ae U af ag;revert X f F;refine eE U ?_;intro X f F;refine eK ?_;refine xR ?_;exact ⟨rfl,X⟩
   . have V:Gn (l.take (j+1)) s=false:=by rw [L];simpa using he
     clear L N;generalize e.name=t at *;refine eK ?_;refine xA [_,_,_,_,_,_,_,_,_,_,_,_] ?_;intro ah ai Y;refine eI [_,_,_,_,_,_,_,_,_,_,_,_] Y ?_;intro aj Z aa ak al;revert X f F;refine eE aa ?_;intro X f F;refine cN (C1 Pg (C1 (Pl Z) (C1 Mv (C1 V8 (cT (Qw (Am (Af (Ae (Aj (C1 V7 ?_)))))))))));refine C1 Mv (Ai ?_);exact Ay (j+1) sB ⟨Aa,V,Ag,X⟩ Aa
 . obtain rfl:j=l.length:=by omega
   rw [aH] at M;rw [M];refine eK ?_;refine xR ?_;exact ⟨rfl,X⟩
def EO (eb lb:Nat):lV:=[str [112,111,105,110,116,115],.pointer (some ⟨eb,1,none⟩),str [102,117,101,108],.pointer (some ⟨eb,2,none⟩),str [118,97,108,117,101],.pointer (some ⟨eb,3,none⟩),str [108,101,110,103,116,104],.pointer (some ⟨eb,4,none⟩),str [105,110,112,117,116],.pointer (some ⟨eb,5,none⟩),str [108,105,110,101,115],.pointer (some ⟨lb,0,none⟩)]
def FieldsR (eb lb:Nat) (w:wD):Ending->wD->Prop:=fun e w'=> ∃g,e = .returned (.slice (some ⟨g,0,none⟩) 6 6)/\Blk w' g (EO eb lb)/\w.heap.size<=g/\Ext w w'
def FieldsR.ret {f E:Nat} {w w':wD} {e:Ending} (h:FieldsR f E w e w') : ∃v,e = .returned v:=by
 obtain ⟨_,h,-⟩:=h;exact ⟨_,h⟩
def PV (M N:Nat) (w:wD):Calls prog 61 #[.pointer (some ⟨M,0,none⟩),.pointer (some ⟨N,0,none⟩)] w (FieldsR M N w):=by
 have X:=cB w;refine Ad func61 ntmps61 rfl rfl ?_;refine eK ?_;refine AD (fun E=>Ext w E) 25 (.pure 0 (.pure 1 (.pure 2 (.pure 3 (.pure 4 (.pure 5 (.pure 6 (.pure 7 (.pure 8 (.pure 9 (.pure 10 (.pure 11 (.pure 12 (.pure 13 (.pure 14 (.pure 15 (.pure 16 (.pure 17 (.pure 18 (.pure 19 (.pure 20 (.pure 21 (.pure 22 (.pure 23 (.pure 24 .tail))))))))))))))))))))))))) mixed Bo (Ab An) ?_;intro O F _;have f:(fun E=>Ext w E) O:=F;simp only at f;have z4:=F.size;have X:=X.ext F;refine ⟨f,?_⟩;refine eT ?_;refine Tq rfl (xB [_,_]) ?_;refine eT ?_;refine Tq rfl (xB [_,_]) ?_;refine eT ?_;refine Tq rfl (xB [_,_]) ?_;refine eT ?_;refine Tq rfl (xB [_,_]) ?_;refine eT ?_;refine Tq rfl (xB [_,_]) (Tq rfl Mv (Tq rfl (xB [_,_]) ?_));refine AE rfl ?_;refine Ax (xS [_,_,_,_,_,_,_,_,_,_,_,_]) rfl ?_ aFh;rintro _ w6 ⟨U,rfl,h,t8⟩;have V:=h.blk;have L:=h.ext;have Y:=h.pos;have Z:=h.size;have X:=X.ext L;refine eK ?_;refine xR ?_;exact ⟨U,rfl,by exact V,Aa,X⟩
section
variable {α:Type} {c:α->Value} {h1 : ∀x,dA (c x)=true} {w:wD} {R:nP} {B e:Nat} {v:Value} {xs ys:List α}
def LN (c:α->Value) : ∀xs:List α,(xs.map fun x=>[c x]).flatten=xs.map c
 | []=>rfl
 | x::xs=>by simp only [bZ,aJ,LN c xs];rfl
def OwnQ.ofOwn (h:Own w B e 1 v xs.length (xs.map c)):OwnQ (EA c h1) w R B e v xs:=
 ⟨⟨xs.map fun x=>[c x],by rw [LN];exact h,Bn,fun i y cs E f=>by
  rw [List.getElem?_map,E] at f;exact (aI f).symm⟩⟩
def OwnQ.toOwn (h:OwnQ (EA c h1) w R B e v xs):Own w B e 1 v xs.length (xs.map c):=by
 obtain ⟨f,F,O,M⟩:=h.ex;have N:f=xs.map fun x=>[c x]:=by
  apply List.ext_getElem?;intro i;rw [List.getElem?_map];rcases aL i xs.length with E|E
  . have L:f[i]? = some f[i]:=Z0 Aa;rw [L,Z0 E];exact congrArg some (M i _ _ (Z0 E) L)
  . rw [aN E,aN Aa];rfl
 rw [N,LN] at F;exact F
def OwnQ.lits {b:Nat} (h:TB w b (xs.map c) e) (f:B<=b) (E:0<xs.length) (F:xs.length<=1000):OwnQ (EA c h1) w R B e (.slice (some ⟨b,0,none⟩) xs.length xs.length) xs:=
 OwnQ.ofOwn ⟨Bn,aA ⟨b,xs.length,(xs.map c).toArray,rfl,f,h,aC _,by unfold maxLen;omega,Bn,by simp;exact List.take_of_length_le Bn⟩⟩
def Oa {P:Program} {n:Nat} {l:Sl} {tab:Tab} {zt:Em} {ty:TypeId} {x y:Operand} {t sz1 cap m:Nat} {sE:Sk} {zs:lV} {p:Addr} (T:TabOk P tab) (Z:Cy P zt) (ht:AB tab t=some (.slice e,sz1)) (hE:AB tab e=some (sE,1)) (hz:CN zt e=some zs) (hzl:zs.length=1)
 (hby:Df P e=true) (hx:ev l x=some v) (hy:ev l y=some (.slice (some p) m cap)) (hm:ys.length=m) (hown:OwnQ (EA c h1) w R B e v xs) (hr:Row w p (ys.map c)) (h0:0<m) (hlen:xs.length+m<=10000000000) (hB:B<=w.heap.size) :
 Ct P n l (.call ⟨.builtin .append,#[x,y],#[t,t]⟩) ty w (XV (EA c h1) w R B e v (xs++ys)):=by
 subst hm;have hd:=Ed (P:=P) (n:=n) (l:=l) (ty:=ty) T Z ht hE hz hzl hby rfl hx hy hown.toOwn hr Bn (by rw [bR];intro u hu;obtain ⟨q,-,rfl⟩:=List.mem_map.1 hu;exact h1 q) Aa Aa hB;unfold Ct at hd ⊢;intro a dst pos after g next Q ha hn b;refine hd a dst pos after g next Q ha (fun v' w' hG=>?_) (fun w' hG=>hG.elim);obtain ⟨g1,g2,g,cap',rfl,g4⟩:=hG;have hg:=g1.blk (k:=g) rfl;refine hn _ w' ⟨g,cap',by rw [ZZ],OwnQ.ofOwn (by rw [ZZ,List.map_append];exact g1),g4,hg.2,g2⟩
def Rf {P:Program} {n:Nat} {l:Sl} {tab:Tab} {zt:Em} {ty:TypeId} {ops:Array Oper} {Q:Exit->Act->wD->Prop} {rest:List Oper} {d:Nat} {pos:String} {after:Array Edge} {x y:Operand} {t M cap m:Nat} {sE:Sk} {U:lV} {p:Addr} (T:TabOk P tab) (Z:Cy P zt) (V:AB tab t=some (.slice e,M)) (X:AB tab e=some (sE,1)) (Y:CN zt e=some U) (N:U.length=1)
 (O:Df P e=true) (hx:ev l x=some v) (hy:ev l y=some (.slice (some p) m cap)) (hm:ys.length=m) (F:OwnQ (EA c h1) w R B e v xs) (hr:Row w p (ys.map c)) (h0:0<m) (L:xs.length+m<=10000000000) (hB:B<=w.heap.size) (hd:aG d n=true)
 (k : ∀g f E,OwnQ (EA c h1) E R B e (.slice (some ⟨g,0,none⟩) (xs++ys).length f) (xs++ys)->(v.ownBlock=some g\/w.heap.size<=g)->g<E.heap.size->Fr (fun k=>v.ownBlock=some k) w E->LW P n ops Q rest ((d,.slice (some ⟨g,0,none⟩) (xs++ys).length f)::l) E) :
 LW P n ops Q (⟨some d,.call ⟨.builtin .append,#[x,y],#[t,t]⟩,ty,pos,after,none⟩::rest) l w:=
 Ax (Oa T Z V X Y N O hx hy hm F hr h0 L hB) hd (fun v E ⟨g,cap,h,ho,h1,h2,hf⟩=>by subst h;exact k g cap E ho h1 h2 hf) aFh
end
end Bk
namespace Bk
open Go Go.RowKit Go.Proofs
structure Tabs (w:wD):Prop where
 sym : ∀i,i<43->w.cell? ⟨1,i,none⟩=some (str (symbols.getD i []))
 pow:Lib.TabIs prog w "internal/strconv.uint64pow10" .u64 Lib.pow10Tab
def FG (k:Int) (w:wD) (f:0<=k) (h1:k<=255) (h:Tabs w):Calls prog 160 #[.int .u8 k] w fun e w'=>e = .returned (str (CZ k))/\w=w':=G7 k w f h1 ⟨h.sym⟩
open Go.Sort
def Ob {P:Program} {B:Nat} {w w':wD} {name:String} {k:IntKind} {f:List Int} (h:Lib.TabIs P w name k f) (E:Below B w w') (F : ∀g,P.globalNamed name=some g->g<B):Lib.TabIs P w' name k f:=by
 unfold Lib.TabIs World.var? at *;cases hn:P.globalNamed name with
 | none=>rw [hn] at h;simp at h
 | some g=>rw [hn] at h;simp only [Option.bind_some] at h ⊢;rw [E.block g (F g hn)];exact h
def Tabs.belowF {B:Nat} {w w':wD} (h:Tabs w) (E:Below B w w') (M:prog.globals.size<=B):Tabs w':=by
 have h1:1<prog.globals.size:=of_decide_eq_true Bo;have N:2<prog.globals.size:=of_decide_eq_true Bo;refine ⟨fun i F=>(Below.cell (p:=⟨1,i,none⟩) E (by show 1<B;omega)).trans (h.sym i F),Ob h.pow E fun g f=>?_⟩
 have L:prog.globalNamed "internal/strconv.uint64pow10" = some 2:=by kernel_rfl
 rw [L] at f
 injection f with f
 omega
def Tabs.extF {w w':wD} (h:Tabs w) (x:Ext w w') (f:prog.globals.size<=w.heap.size):Tabs w':=h.belowF x f
structure TabsF (w:wD):Prop where
 t:Tabs w
 g:prog.globals.size<=w.heap.size
def TabsF.ext {w w':wD} (h:TabsF w) (x:Ext w w'):TabsF w':=⟨h.t.extF x h.g,bE h.g x.size⟩
instance {w w':wD}:LfE w w' (TabsF w) (TabsF w'):=⟨fun x h=>Bk.TabsF.ext h x⟩
def TabsF.fr {S:nP} {w w':wD} (h:TabsF w) (x:Fr S w w') (f : ∀k,S k->prog.globals.size<=k):TabsF w':=
 ⟨h.t.belowF (B:=prog.globals.size) ⟨x.os,x.tape,x.output,x.size,fun k F=>x.block k (by have:=h.g;omega) (fun E=>by have:=f k E;omega)⟩ (aC _),bE h.g x.size⟩
instance {S:nP} {w w':wD}:LfF S w w' (TabsF w) (∀k,S k->prog.globals.size<=k) (TabsF w'):=⟨fun x s h=>Bk.TabsF.fr h x s⟩
def Tw (w:wD) (k:Nat) (f:Array Obj):Ext w (grow (w.drewN k) f):=by
 have h:(grow (w.drewN k) f).heap=w.heap++f:=rfl;refine ⟨rfl,rfl,rfl,?_,fun i E=>?_⟩
 . rw [h];simp
 . rw [h,Array.getElem?_append_left E]
def Sg (n:Int) (w:wD) (f:TabsF w) (h : -9223372036854775808<=n) (h1:n<=9223372036854775807) :
 Calls prog 62 #[.int .i64 n] w fun e w'=>e = .returned (str (Lib.itoa n))/\Ext w w':=
 (Tryz.strconv_Itoa n h h1 w f.t.pow).mono fun e w' ⟨E,k,os,hw⟩=>⟨E,hw▸Tw w k os⟩
def OwnQ.cap {α:Type} {sh:Shape α} {w:wD} {R:nP} {B e:Nat} {a:oA} {len cap:Nat} {xs:List α} (h:OwnQ sh w R B e (.slice a len cap) xs):xs.length<=cap:=by
 obtain ⟨E,⟨-,h1⟩,-⟩:=h.ex;rcases h1 with ⟨f,L⟩|⟨g,c,F,f,-,-,M,-⟩
 . omega
 . simp only [aS] at f;omega
def W7 {w:wD} {R:nP} {B e:Nat} {a:oA} {cap:Nat} {xs:List lB} (sep:lB) (h:OwnQ LK w R B e (.slice a xs.length cap) xs) (hN:xs.length<=1000000000) (hlen:(Lib.join xs sep).length<=140737488355328) :
 Calls prog 63 #[.slice a xs.length cap,str sep] w fun r w'=>r = .returned (str (Lib.join xs sep))/\Ext w w':=by
 have hc:=h.cap;have he:=h.els (S:=fun b=>b<w.heap.size) (fun _ _ h=>h);by_cases hx:xs=[]
 . subst hx;refine (Tryz.strings_Join_none a cap ⟨sep.toArray⟩ w).mono fun r w' ⟨h1,h2⟩=>⟨?_,?_⟩
   . rw [h1];rfl
   . rw [h2];exact cB _
 . obtain ⟨g,o,rfl,hg,hr⟩:=WZ he hx;have hm:(xs.map (fun l=>(⟨l.toArray⟩:ByteArray))).map (·.data.toList)=xs:=by
    rw [List.map_map]
    conv=>rhs;rw [<-List.map_id xs]
    exact List.map_congr_left (fun _ _=>rfl)
   have hl:(xs.map (fun l=>(⟨l.toArray⟩:ByteArray))).length=xs.length:=by simp
   have key:=Tryz.strings_Join g o cap (xs.map (fun l=>(⟨l.toArray⟩:ByteArray))) ⟨sep.toArray⟩ w (fun j x hj=>by
    rw [List.getElem?_map,Option.map_eq_some_iff] at hj;obtain ⟨y,hy,rfl⟩:=hj;have:=hr.at (i:=j) (v:=str y) (by simp [hy]);exact this) hg (by rw [hl];omega) (by rw [hl];exact hc) (by rw [hm];exact hlen)
   rw [hl,hm] at key;exact key.mono fun r w' ⟨h1,h2⟩=>⟨h1,h2⟩
end Bk
namespace Bk
open Go Go.RowKit Go.Proofs
attribute [local irreducible] Go.Calls
def E2 (e:EX) (n:Int):List (lB×Int):=[([112,111,105,110,116,115],e.points),([102,117,101,108],e.fuel),([118,97,108,117,101],e.box.v),([108,101,110,103,116,104],e.box.l),([105,110,112,117,116],e.box.i),([108,105,110,101,115],n)]
def Ir (e:EX) (n:Int):List lB:=[[101,120,101,114,99,105,115,101],e.name]++(E2 e n).flatMap fun p=>[p.1,Lib.itoa p.2]
def LO (e:EX) (n:Int):lB:=Lib.join (Ir e n) [32]++[10]
structure EX.rng (e:EX):Prop where
 p : -9223372036854775808<=e.points/\e.points<=9223372036854775807
 f : -9223372036854775808<=e.fuel/\e.fuel<=9223372036854775807
 v : -9223372036854775808<=e.box.v/\e.box.v<=9223372036854775807
 l : -9223372036854775808<=e.box.l/\e.box.l<=9223372036854775807
 i : -9223372036854775808<=e.box.i/\e.box.i<=9223372036854775807
def EB (e:EX) (n:Int) (j:Nat):List lB:=[[101,120,101,114,99,105,115,101],e.name]++((E2 e n).take j).flatMap fun p=>[p.1,Lib.itoa p.2]
def PW (e:EX) (n:Int) (j:Nat) (p:lB×Int) (h:(E2 e n)[j]? = some p):EB e n (j+1)=EB e n j++[p.1,Lib.itoa p.2]:=by
 unfold EB;have f:j<(E2 e n).length:=(List.getElem?_eq_some_iff.1 h).1;rw [aD f,List.flatMap_append,<-aW];rw [Z0 f] at h;rw [aI h];simp
def Vb (e:EX) (n:Int) (f E:Nat) (w:wD) (g:Nat) (N:Blk w g (EO f E)) {cs:lV} (O:Blk w f ([str e.name,.int .i64 e.points,.int .i64 e.fuel,.int .i64 e.box.v,.int .i64 e.box.l,.int .i64 e.box.i]++cs)) (U:Blk w E [.int .i64 n]) (j:Nat) (Y:j<6) :
 ∃L num fb M,(E2 e n)[j]? = some (L,num)/\Row w ⟨g,0+j*2,none⟩ [str L,.pointer (some ⟨fb,M,none⟩)]/\Row w ⟨fb,M,none⟩ [.int .i64 num]/\(fb=f\/fb=E):=by
 have h:=N.row.sub (j*2) 2;have V:=O.row;have key : ∀(o:Nat) (num:Int),([str e.name,.int .i64 e.points,.int .i64 e.fuel,.int .i64 e.box.v,.int .i64 e.box.l,.int .i64 e.box.i]++cs)[o]? = some (.int .i64 num)->Row w ⟨f,o,none⟩ [.int .i64 num]:=fun o num X i v F=>by
  match i,F with
  | 0,F=>
   simp only [List.getElem?_cons_zero,Z9] at F;subst F;have:=V.at X;simpa [bJ] using this
 rcases (show j=0\/j=1\/j=2\/j=3\/j=4\/j=5 by omega) with rfl|rfl|rfl|rfl|rfl|rfl
 . exact ⟨_,_,f,1,rfl,h,key 1 _ rfl,Z6 rfl⟩
 . exact ⟨_,_,f,2,rfl,h,key 2 _ rfl,Z6 rfl⟩
 . exact ⟨_,_,f,3,rfl,h,key 3 _ rfl,Z6 rfl⟩
 . exact ⟨_,_,f,4,rfl,h,key 4 _ rfl,Z6 rfl⟩
 . exact ⟨_,_,f,5,rfl,h,key 5 _ rfl,Z6 rfl⟩
 . exact ⟨_,_,E,0,rfl,h,U.row,aA rfl⟩
def JP (e:EX) (n:Int) (h:e.rng) (F:0<=n/\n<=9223372036854775807) : ∀p∈E2 e n,-9223372036854775808<=p.2/\p.2<=9223372036854775807:=by
 intro p E;simp only [E2,aK,List.mem_nil_iff,or_false] at E;rcases E with rfl|rfl|rfl|rfl|rfl|rfl
 . exact h.p
 . exact h.f
 . exact h.v
 . exact h.l
 . exact h.i
 . exact ⟨by show -9223372036854775808<=n;omega,F.2⟩
def IE (e:EX) (n:Int) (j:Nat) (h:j<=6):(EB e n j).length=2+2*j:=by
 rcases (show j=0\/j=1\/j=2\/j=3\/j=4\/j=5\/j=6 by omega) with rfl|rfl|rfl|rfl|rfl|rfl|rfl<;>simp [EB,E2]
def JQ : ∀l:List (lB×Int),(∀p∈l,p.1.length<=10 /\ -9223372036854775808<=p.2/\p.2<=9223372036854775807)->Lib.lens (l.flatMap fun p=>[p.1,Lib.itoa p.2])<=l.length*31
 | [],_=>by simp [Lib.lens]
 | p::l,h=>by
  have h1:=h p Bn;have F:=Lib.itoa_length_le p.2 h1.2.1 h1.2.2;have f:=JQ l (fun q E=>h q (by simp [E]));unfold Lib.lens at f ⊢;simp only [List.flatMap_cons,bU,List.nil_append,bZ,List.sum_cons,Z1];omega
def M6 (e:EX) (n:Int):(E2 e n).length=6:=rfl
def LP (e:EX) (n:Int) : ∀p∈E2 e n,p.1.length<=10:=by
 intro p f;simp only [E2,aK,List.mem_nil_iff,or_false] at f;rcases f with rfl|rfl|rfl|rfl|rfl|rfl<;>simp
def LQ : ∀l:List (lB×Int),(l.flatMap fun p=>[p.1,Lib.itoa p.2]).length=l.length*2
 | []=>rfl
 | p::l=>by simp only [List.flatMap_cons,ZZ,Z1,Z4,LQ l];omega
def Tx (e:EX) (n:Int) (h:e.rng) (E:0<=n/\n<=9223372036854775807) (F:e.name.length<=100000):(Lib.join (Ir e n) [32]).length<=140737488355328:=by
 have h1:=JQ (E2 e n) (fun p f=>⟨LP e n p f,JP e n h E p f⟩);have L:=LQ (E2 e n);rw [M6] at h1 L;unfold Ir;generalize (E2 e n).flatMap (fun p=>[p.1,Lib.itoa p.2])=r at *;rw [bU,Lib.join_length];unfold Lib.lens at h1 ⊢;simp only [bU,List.nil_append,Z1,Z4,bZ,List.sum_cons];omega
def Vc (e:EX) (n:Int) (hr:e.rng) (hn:0<=n/\n<=9223372036854775807) (ao:e.name.length<=100000) (va:oA) (vc:Nat) (pa:oA) (pc:Nat) (ma:oA) (mc:Nat) (w:wD) (N:TabsF w) :
 Calls prog 32 #[.agg (e.cells va vc pa pc ma mc).toArray,.int .i64 n] w fun r w'=>r = .returned (str (LO e n))/\Ext w w':=by
 have X:=cB w;have HF:=Z2 (fun eb lb w1=>PV eb lb w1);have bo:=N.g;have ap:=Tx e n hr hn ao;unfold EX.cells;refine Ad func32 ntmps32 rfl rfl ?_;refine cS (eB [_,_,_,_,_,_,_,_,_,_,_,_] ?_);intro b1 w2 O x5 p6 z7;revert N X;refine eE x5 ?_;intro N X;refine eB [_] ?_;intro b8 w9 E aq bp bq;revert O N X;refine eE aq ?_;intro O N X;refine eK ?_;refine Ax (xS [_,_]) rfl ?_ aFh;rintro _ br ⟨ar,rfl,ad,au⟩;have aa:TB _ _ _ _:=au;have av:=ad.ext;have bs:=ad.pos;have z22:=ad.size;revert E O N X;refine eE av ?_;intro E O N X;refine eK ?_;refine eQ rfl (HF.out _ _ _) ?_;rintro _ bt ⟨Y,⟨⟨⟩,⟨F,⟨bu,aw⟩⟩⟩⟩;revert aa E O N X;refine eY aw ?_;intro bv aa E O N X;refine C1 Pz (C1 Mv (cT ?_));have ae:=F.lt;have a6:=X.size;refine At ?_;refine AK (ι:=Nat×oA×Nat) (fun x=>[(5,.slice x.2.1 (EB e n x.1).length x.2.2),(11,.slice (some ⟨Y,0,none⟩) 6 6),(12,.int .i64 6),(13,.int .i64 x.1)])
  (fun x w'=>x.1<=6/\OwnQ LK w' (fun _=>False) (b8+1) 9 (.slice x.2.1 (EB e n x.1).length x.2.2) (EB e n x.1)/\(∀k,(bI x.2.1 (EB e n x.1).length x.2.2).ownBlock=some k->k≠Y)/\Blk w' Y (EO b1 b8)/\Blk w' b8 [.int .i64 n]/\Blk w' b1 [str e.name,.int .i64 e.points,.int .i64 e.fuel,.int .i64 e.box.v,.int .i64 e.box.l,.int .i64 e.box.i,.slice va e.g.vars.length vc,.slice pa e.g.procs.length pc,.int .u8 e.g.main.kind,.int .i64 e.g.main.num,str e.g.main.name,.slice ma e.g.main.kids.length mc]/\TabsF w'/\Ext w w'/\Y<w'.heap.size)
  (fun x=>6-x.1) (0,some ⟨ar,0,none⟩,2) sB ⟨aE _,OwnQ.lits (xs:=EB e n 0) aa Aa (by rw [IE e n 0 Aa];omega) (by rw [IE e n 0 Aa];omega),fun k hk=>by simp only [bH,Z9] at hk;omega,F,E,O,N,X,ae⟩ ?_
 clear F E O N X aa ae;rintro ⟨j,ra,rc⟩ w3 ⟨hj,f,af,F,E,O,N,X,ae⟩;simp only at hj f af;have U : ∀k,(bI ra (EB e n j).length rc).ownBlock=some k->b8<k/\k<w3.heap.size/\k≠Y:=fun k h=>⟨f.ge h,f.lt h,af k h⟩
 have ag:=IE e n j hj;by_cases ax:j<6
 . obtain ⟨wd,num,fb,fo,hf,r1,r2,bw⟩:=Vb e n b1 b8 w3 Y F O E j ax;have hs:=PW e n j _ hf;have ay:=JP e n hr hn _ (List.mem_of_getElem? hf);simp only at hs ay;have a7:(EB e n j).length<=100:=by omega
   clear ag hf;generalize EB e n j=ws at *;refine eK ?_;refine xA [_,_] ?_;intro bx bz az;refine eI [_,_] az ?_;intro ah V a0 b0 b2;revert F E O N X r1 r2 f;refine eE a0 ?_;intro F E O N X r1 r2 f;refine cT (AD (fun wz=>Ext ah wz) 9 (.pure 0 (.pure 1 (.pure 2 (.pure 3 (.pure 4 (.pure 5 (.pure 6 (.fork 7 (.fork 8 .tail .none) .none)))))))) mixed Bo (Al (Ab (Ab (Al (Ab An))))) ?_);intro a1 ab _;have L:(fun wz=>Ext ah wz) a1:=ab;simp only at L;have a2:=V;have a3:=F;have a4:=E;have a8:=O;have a9:=N;have ba:=r1;have ai:=r2;have an:=f;revert V F E O N X r1 r2 f;refine eY ab ?_;intro bb V F E O N X r1 r2 f;refine ⟨L,?_⟩;refine eT ?_;refine Tq rfl (AA Ac rfl rfl rfl (fun wz hz=>Row.at0 (dF ai hz) rfl)) ?_;refine tC rfl rfl (Sg _ _ Ag Aa Aa) ?_;rintro _ bc ⟨⟨⟩,aj⟩;revert L V F E O N X r1 r2 f;refine eY aj ?_;intro bd L V F E O N X r1 r2 f;refine ⟨L,?_⟩;refine A1 rfl (xS [_,_]) rfl ?_ aFh A4;rintro _ be ⟨bf,rfl,Z,bg⟩;have ac:=Z.blk;have ak:=Z.ext;have bh:=Z.pos;have bi:=Z.size;revert L V F E O N X r1 r2 f;refine eE ak ?_;intro L V F E O N X r1 r2 f;refine ⟨L,?_⟩;refine AE rfl (Rf (ys:=[wd,Lib.itoa num]) Ac Ci rfl rfl rfl rfl Bo rfl rfl rfl Ag (cQ Ag) Aa Aa Aa rfl ?_);rintro bj al bk bl am bm M;have bn:=M.size;have ac:=cH ac M (fun e=>by have:=U _ e;omega);have V:=cH V M (fun e=>by have:=U _ e;omega);have F:=cH F M (fun e=>(U _ e).2.2 rfl);have E:=cH E M (fun e=>by have:=U _ e;omega);have O:=cH O M (fun e=>by have:=U _ e;omega);have N:=TabsF.fr N M (fun k hk=>by have:=U _ hk;omega);have X:=dH X M (fun k hk=>by have:=U _ hk;omega);have r1:=Row.fr r1 M (fun e=>(U _ e).2.2 rfl);clear r2 f M;refine C1 Pa (Ai (Af (Ae (Aj (C1 V7 (C1 Mv (Ai ?_)))))))
   exact Ay (j+1,some ⟨_,0,none⟩,_) (by dsimp only;rw [hs];(refine Az rfl ?_;refine Az rfl ?_;refine Az rfl ?_;refine Az rfl ?_;exact Cj)) ⟨by (try dsimp only);omega,by dsimp only;rw [hs];assumption,fun k hk=>by
    simp only [bH,Z9] at hk;subst hk;rcases am with h|h
    . exact (U _ h).2.2
    . omega,F,E,O,N,X,Aa⟩ (by (try dsimp only);omega)
 . obtain rfl:j=6:=by omega
   unfold LO;have he:EB e n 6=Ir e n:=rfl;rw [he] at f ag;refine CW.sub (m:=[(5,.slice ra (Ir e n).length rc),(11,.slice (some ⟨Y,0,none⟩) 6 6),(12,.int .i64 6),(13,.int .i64 6)]) ?_ sB;clear af U he;generalize Ir e n=ws at *;have HJ:=Z2 (fun w1 (h:OwnQ LK w1 (fun _=>False) (b8+1) 9 (.slice ra ws.length rc) ws)=>W7 [32] h Aa ap);refine eK ?_;refine cC rfl (HJ.out _ Ag) ?_;rintro _ b3 ⟨⟨⟩,a5⟩;revert F E O N X f;refine eY a5 ?_;intro b4 F E O N X f;refine C1 (KP rfl rfl (by simp only [Z1,Z4];omega)) ?_;refine eK ?_;refine xR ?_;exact ⟨rfl,X⟩
end Bk
