/- Texts that the proofs of ExercisePrints need. No condition. (Part 5 of 8.) -/
import Derived.Test.YtjkgmpljepnmiaaGreatDoorPEpr4
set_option linter.unusedSimpArgs false
set_option linter.unusedVariables false
set_option linter.defProp false
set_option maxRecDepth 100000
set_option maxHeartbeats 4000000
open Go.Proofs.Tryz
open List renaming length_append->aU,length_cons->aV,getElem_cons_succ->aW,length_nil->aX,getElem?_eq_getElem->aY,set_cons_zero->aZ,getElem_mem->bD,take_succ_eq_append_getElem->bE,take_length->bH,mem_cons->bR,getElem?_eq_none->bS,not_mem_nil->bX,replicate->cB,append_assoc->cF,length_take->cH,flatten_cons->cI,take_append_drop->cL,drop_eq_getElem_cons->cW,all_eq_true->cX,getD_eq_getElem?_getD->dC,getElem?_append_left->dD,take_succ_cons->dE,mem_singleton->dG
open Go.Lib renaming hid->bA,indexByte->dA
open Bool renaming and_eq_true->bB,false_eq_true->dH
open Or renaming inl->bC,inr->bF
open Go.Result renaming andThen->bG
open Nat renaming zero_le->bI,le_refl->bJ,blt->bM,lt_or_ge->bQ,le_trans->cD,le_of_ble_eq_true->cE,eq_of_beq_eq_true->cQ,ble->cY,beq->cZ
open Option.some renaming injEq->bK,inj->bO
open Go.Sem renaming run_bind->bL,run_pure->bW
open Go renaming Calls->bN
open Go.IntWalk renaming i64_in->bT
open Go.Region renaming ready->bU,binds->dB
open Go.Value.slice renaming injEq->bZ
open Go.DataW renaming trod->cG
open Array renaming getElem?_eq_none->cJ
open List.cons renaming injEq->cK
open Prod.mk renaming injEq->cO
open Go.Value renaming slice->cP,ownBlock->cV,bool->dF
open Go.Addr renaming add->cU
open Bk.Ext renaming refl->dI,alloc->dJ,trans->dK,drew->dX,fr->eX
open Bk.Nd renaming size->dL,kind->dM,kids->dN,name->dO,text->dT,num->dU,val->dW,sits->dY
open Bk.Blk renaming cell->dP,fr->dQ,ext->dV,row->eC
open Bk.Nd.sits renaming wide->dR,fr->eO
open Bk.Fr renaming refl->eG
open Bk.VDs renaming fr->fD
open Bk.rowSits renaming fr->fN
namespace Bk
open Go Go.RowKit Go.Proofs
attribute [local irreducible] Go.Calls
set_option maxHeartbeats 8000000 in
def P7 (g:PG) (hg:g.procs.length<=1000000) (k n:Int) (s:lB) (l:List Nd) (hl:l.length<=1000000) (i:Nat) (hi:i<l.length) (v:List VD) (hv:v.length<=1000000) (S S' bs:nP) (va:oA) (vc:Nat) (pa:oA) (pc:Nat) (ma:oA) (mc:Nat) (ka:oA) (kc:Nat) (a:oA) (c:Nat) (w:wD) (f:PDs S w g.procs pa) (aj:rowSits bs w l ka) (E:VDs S' w v a) :
 Calls prog 135 #[.agg (g.cells va vc pa pc ma mc).toArray,(Nd.mk k n s l).val ka kc,.int .i64 i,.slice a v.length c] w fun e w'=>e = .returned (.int .i64 (O2 g.procs v s l.length i (l[i]'hi).name))/\Ext w w':=by
 have X:=dI w;have f:=f.ltA;have aj:=CY _ _ aj;obtain ⟨xb,xo,rfl,xS,an⟩:=Ba aj (by intro e;subst e;simp at hi);obtain ⟨xa,xc,h,-⟩:=an i l[i] (aY hi);clear an aj;have HF:=bA (Rq v hv (l[i]).name);have HP:=bA (Rr g hg s (· < w.heap.size) va vc pa pc ma mc);unfold H9 at HP;unfold O2;generalize l[i]=x at *;show Calls prog 135 #[.agg (g.cells va vc pa pc ma mc).toArray,.agg #[.int .u8 k,.int .i64 n,str s,.slice (some ⟨xb,xo,none⟩) l.length kc],.int .i64 i,.slice a v.length c] w _;generalize F2 v x.name=o at *;cases o with
 | none=>
  dsimp only [Option.isSome,Option.getD] at HF;refine Af func135 ntmps135 rfl rfl ?_;refine cS (eB [_,_,_,_,_,_] ?_);intro b1 w2 h4 x5 p6 z7;revert E X f h;refine eE x5 ?_;intro E X f h;refine eB [_,_,_,_] ?_;intro b8 w9 ak bt c9 da;revert h4 E X f h;refine eE bt ?_;intro h4 E X f h;refine eK ?_;refine C1 (Pw h) (cC rfl (HF.out _ _ _ _ Ag) ?_);rintro _ db ⟨⟨⟩,bu⟩;revert ak h4 E X f h;refine eY bu ?_;intro dc ak h4 E X f h;refine eK ?_;refine xA [_,_,_] ?_;intro dd de bv;refine eI [_,_,_] bv ?_;intro df dg bw dh di;revert ak h4 E X f h;refine eE bw ?_;intro ak h4 E X f h;refine eK ?_;refine xR ?_;exact ⟨rfl,X⟩
 | some d=>
  obtain ⟨dn,dk,dl⟩:=d;dsimp only [Option.isSome,Option.getD] at HF ⊢;cases hq:FI g.procs s with
  | none=>
   rw [hq] at HP;dsimp only [Option.bind] at HP ⊢;refine Af func135 ntmps135 rfl rfl ?_;refine cS (eB [_,_,_,_,_,_] ?_);intro dm dp V bx dq dr;revert E X f h;refine eE bx ?_;intro E X f h;refine eB [_,_,_,_] ?_;intro ds dt L a2 b3 b4;revert V E X f h;refine eE a2 ?_;intro V E X f h;refine eK ?_;refine C1 (Pw h) (cC rfl (HF.out _ _ _ _ Ag) ?_);rintro _ b5 ⟨⟨⟩,a3⟩;revert L V E X f h;refine eY a3 ?_;intro b6 L V E X f h;refine eK ?_;refine xA [_,_,_] ?_;intro b7 b9 Z;refine FG [_,_,_] Ac rfl rfl rfl rfl rfl rfl Z rfl ?_;intro ca Z;have aa:=Z.blk;dsimp only at aa;have a4:=Z.ext;have cb:=Z.pos;have cc:=Z.size;revert L V E X f h;refine eE a4 ?_;intro L V E X f h;refine eK ?_;refine cC rfl (HP.out _ Ag) ?_;rintro _ ao ⟨⟨⟩,a5⟩;revert aa L V E X f h;refine eY a5 ?_;intro cd aa L V E X f h;refine eK ?_;refine AC (fun wz=>Ext ao wz) 13 (.pure 0 (.pure 1 (.pure 2 (.pure 3 (.pure 4 (.pure 5 (.pure 6 (.pure 7 (.pure 8 (.pure 9 (.pure 10 (.pure 11 (.pure 12 .tail))))))))))))) mixed Bl (Aa (Aa An)) ?_;intro a6 ap _;have ae:(fun wz=>Ext ao wz) a6:=ap;simp only at ae;have bo:=aa;have bp:=L;have bz:=V;have aq:=E;have af:=f;have ar:=h;revert aa L V E X f h;refine eY ap ?_;intro ce aa L V E X f h;refine ⟨ae,?_⟩;refine Tq rfl Mv (Tq rfl V3 (Tq rfl Mv (eM rfl (eM rfl (eM rfl (eM rfl (eM rfl (eM rfl (eM rfl (eM rfl (eM rfl ?_)))))))))));refine eM rfl ?_;refine AF rfl ?_;refine eK ?_;refine xR ?_
   exact ⟨rfl,X⟩
  | some j=>
   rw [hq] at HP;have hj:=P6 hq;dsimp only [Option.bind] at HP ⊢;rw [aY hj];dsimp only;obtain ⟨kb,ko,rfl,kS,au⟩:=f.get (by intro e;rw [e] at hj;simp at hj);obtain ⟨qa,qc,ba,bc,M,az,-⟩:=au j g.procs[j] (aY hj);clear au hq;generalize g.procs[j]=y at *;by_cases hm:l.length=y.params.length
   . rw [AE Ab];obtain ⟨zb,zo,rfl,zS,a7⟩:=az.get (by intro e;rw [e] at hm;simp only [aX] at hm;omega);have r1:=a7 i (y.params[i]'(by omega)) (aY Ab);rw [aY Ab];dsimp only;clear a7 az;generalize y.params[i]'(by omega)=q at *;obtain ⟨qn,qk,ql⟩:=q;replace r1:Row w ⟨zb,zo+i*3,none⟩ [str qn,.int .u8 qk,.int .i64 ql]:=r1;dsimp only;refine Af func135 ntmps135 rfl rfl ?_
     focus
      refine cS (eB [_,_,_,_,_,_] ?_);intro du dv O b0 dw dx;revert E X h f M r1;refine eE b0 ?_;intro E X h f M r1;refine eB [_,_,_,_] ?_;intro dy dz F a8 cf cg;revert O E X h f M r1;refine eE a8 ?_;intro O E X h f M r1;refine eK ?_;refine C1 (Pw h) (cC rfl (HF.out _ _ _ _ Ag) ?_);rintro _ ch ⟨⟨⟩,a9⟩;revert F O E X h f M r1;refine eY a9 ?_;intro ci F O E X h f M r1;refine eK ?_;refine xA [_,_,_] ?_;intro cj ck ab;refine FG [_,_,_] Ac rfl rfl rfl rfl rfl rfl ab rfl ?_;intro cl ab;have U:=ab.blk;dsimp only at U;have bb:=ab.ext;have cm:=ab.pos;have cn:=ab.size;revert F O E X h f M r1;refine eE bb ?_;intro F O E X h f M r1;refine eK ?_;refine cC rfl (HP.out _ Ag) ?_;rintro _ av ⟨⟨⟩,bd⟩;revert U F O E X h f M r1;refine eY bd ?_;intro co U F O E X h f M r1;refine eK ?_;refine AC (fun wz=>Ext av wz) 13 (.pure 0 (.pure 1 (.pure 2 (.pure 3 (.pure 4 (.pure 5 (.pure 6 (.pure 7 (.pure 8 (.pure 9 (.pure 10 (.pure 11 (.pure 12 .tail))))))))))))) mixed Bl (Aa (Aa An)) ?_;intro be aw _;have ag:(fun wz=>Ext av wz) be:=aw;simp only at ag;have bq:=U;have al:=F;have a0:=O;have aq:=E;have ar:=h;have af:=f;have ah:=M;have cp:=r1;revert U F O E X h f M r1;refine eY aw ?_;intro cq U F O E X h f M r1;refine ⟨ag,?_⟩;refine Tq rfl Mv (Tq rfl V3 (Tq rfl Mv (eN rfl (AS Ac rfl rfl rfl) (eN rfl (Ax Ac rfl rfl rfl (fun wz hz=>dP (dV al hz) rfl)) (eN rfl (C3 Ac rfl rfl) (eN rfl (AS Ac rfl rfl rfl) (eN rfl (Ax Ac rfl rfl rfl (fun wz hz=>dP (dV a0 hz) rfl)) (eN rfl (BM rfl) (eN rfl (Ay Ac rfl rfl rfl rfl Ab Ab) (eN rfl (AS Ac rfl rfl rfl) (eN rfl (Ax Ac rfl rfl rfl (fun wz hz=>Row.at (Row.ext ah hz) rfl)) ?_)))))))))));refine eN rfl (C3 Ac rfl rfl) ?_;refine AF rfl ?_;refine eK ?_;refine C1 (Pw M) ?_;refine eK ?_;refine xA [_,_,_] ?_;intro cr ct bf;refine eI [_,_,_] bf ?_
      intro cu cv bg cw cx;revert U F O E X h f M r1;refine eE bg ?_;intro U F O E X h f M r1;refine eK ?_;refine Cm rfl rfl rfl (fun bh=>?_) (fun bh=>?_);refine eK ?_;refine xR ?_;rotate_left;refine eK ?_;refine Jd rfl (fun bi=>?_) (fun bi=>?_);refine eK ?_;refine xR ?_;rotate_left;refine eK ?_;refine xR ?_;rotate_left
     all_goals exact ⟨by simp [*],X⟩
   . rw [AU Ab];clear az;refine Af func135 ntmps135 rfl rfl ?_;refine cS (eB [_,_,_,_,_,_] ?_);intro d0 d1 Y b2 d2 d3;revert E X h f M;refine eE b2 ?_;intro E X h f M;refine eB [_,_,_,_] ?_;intro d4 d5 N bj cy cz;revert Y E X h f M;refine eE bj ?_;intro Y E X h f M;refine eK ?_;refine C1 (Pw h) (cC rfl (HF.out _ _ _ _ Ag) ?_);rintro _ c0 ⟨⟨⟩,bk⟩;revert N Y E X h f M;refine eY bk ?_;intro c1 N Y E X h f M;refine eK ?_;refine xA [_,_,_] ?_;intro c2 c3 ac;refine FG [_,_,_] Ac rfl rfl rfl rfl rfl rfl ac rfl ?_;intro c4 ac;have ad:=ac.blk;dsimp only at ad;have bl:=ac.ext;have c5:=ac.pos;have c6:=ac.size;revert N Y E X h f M;refine eE bl ?_;intro N Y E X h f M;refine eK ?_;refine cC rfl (HP.out _ Ag) ?_;rintro _ ax ⟨⟨⟩,bm⟩;revert ad N Y E X h f M;refine eY bm ?_;intro c7 ad N Y E X h f M;refine eK ?_;refine AC (fun wz=>Ext ax wz) 13 (.pure 0 (.pure 1 (.pure 2 (.pure 3 (.pure 4 (.pure 5 (.pure 6 (.pure 7 (.pure 8 (.pure 9 (.pure 10 (.pure 11 (.pure 12 .tail))))))))))))) mixed Bl (Aa (Aa An)) ?_;intro bn ay _;have ai:(fun wz=>Ext ax wz) bn:=ay;simp only at ai;have br:=ad;have am:=N;have a1:=Y;have aq:=E;have ar:=h;have af:=f;have ah:=M;revert ad N Y E X h f M;refine eY ay ?_;intro c8 ad N Y E X h f M;refine ⟨ai,?_⟩;refine Tq rfl Mv (Tq rfl V3 (Tq rfl Mv (eN rfl (AS Ac rfl rfl rfl) (eN rfl (Ax Ac rfl rfl rfl (fun wz hz=>dP (dV am hz) rfl)) (eN rfl (C3 Ac rfl rfl) (eN rfl (AS Ac rfl rfl rfl) (eN rfl (Ax Ac rfl rfl rfl (fun wz hz=>dP (dV a1 hz) rfl)) (eN rfl (BM rfl) (eN rfl (Ay Ac rfl rfl rfl rfl Ab Ab) (eN rfl (AS Ac rfl rfl rfl) (eN rfl (Ax Ac rfl rfl rfl (fun wz hz=>Row.at (Row.ext ah hz) rfl)) ?_)))))))))));refine eN rfl (C3 Ac rfl rfl) ?_;refine AF rfl ?_;refine eK ?_;refine xR ?_
     all_goals exact ⟨rfl,X⟩
structure FS (c fb m:Nat) (w:wD) (v:Value):Prop where
 cell:Blk w fb [v]
 own:OwnQ (Hz 4) w (fun _=>False) c 150 v (cB m ())
 ne:v.ownBlock≠some fb
 le:c<=w.heap.size
structure Eff (fb:Nat) (w:wD) (v:Value) (w':wD) (v':Value):Prop where
 fr:Fr (fun k=>k=fb\/v.ownBlock=some k) w w'
 new : ∀g,v'.ownBlock=some g->v.ownBlock=some g\/w.heap.size<=g
def Eff.of_ext {fb:Nat} {w w':wD} {v:Value} (x:Ext w w'):Eff fb w v w' v:=⟨⟨x.os,x.tape,x.output,x.size,fun _ f _=>x.block f⟩,fun _ h=>bC h⟩
def Eff.trans {fb:Nat} {w E F:wD} {v L v2:Value} (h:Eff fb w v E L) (k:Eff fb E L F v2):Eff fb w v F v2:=by
 have M:=h.fr.size;refine ⟨⟨k.fr.os.trans h.fr.os,k.fr.tape.trans h.fr.tape,k.fr.output.trans h.fr.output,cD M k.fr.size,fun i N f=>?_⟩,fun g O=>?_⟩
 . refine (k.fr.block i Ab (fun e=>?_)).trans (h.fr.block i N f);rcases e with e|e
   . exact f (bC e)
   . rcases h.new i e with e|e
     . exact f (bF e)
     . omega
 . rcases k.new g O with h1|h1
   . exact h.new g h1
   . exact bF Ab
def Kp (fb:Nat) (w:wD) (v:Value) (b:Nat):Prop:=b<w.heap.size/\b≠fb/\v.ownBlock≠some b
def Kp.eff {fb:Nat} {w w':wD} {v f:Value} {b:Nat} (h:Kp fb w v b) (k:Eff fb w v w' f):Kp fb w' f b:=by
 have:=k.fr.size;refine ⟨by have:=h.1;omega,h.2.1,fun e=>?_⟩;rcases k.new b e with e|e
 . exact h.2.2 e
 . have:=h.1;omega
def Kp.grow {fb:Nat} {w w':wD} {v:Value} {b:Nat} (h:Kp fb w v b) (f:w.heap.size<=w'.heap.size):Kp fb w' v b:=⟨Nat.lt_of_lt_of_le h.1 f,h.2⟩
def Kp.not {fb:Nat} {w:wD} {v:Value} {b:Nat} (h:Kp fb w v b) : ¬(b=fb\/v.ownBlock=some b):=fun e=>e.elim h.2.1 h.2.2
def FS.ext {c fb m:Nat} {w w':wD} {v:Value} (h:FS c fb m w v) (x:Ext w w'):FS c fb m w' v:=⟨h.cell.ext x,h.own.ext x,h.ne,cD h.le x.size⟩
instance {c fb m:Nat} {w w':wD} {v:Value}:LfE w w' (FS c fb m w v) (FS c fb m w' v):=⟨fun x h=>Bk.FS.ext h x⟩
def FS.fr {c fb m:Nat} {S:nP} {w w':wD} {v:Value} (h:FS c fb m w v) (x:Fr S w w') (f : ∀k,S k->k≠fb/\v.ownBlock≠some k):FS c fb m w' v:=⟨h.cell.fr x (fun e=>(f _ e).1 rfl),h.own.fr x (fun k E=>⟨id,(f k E).2⟩),h.ne,cD h.le x.size⟩
instance {c fb m:Nat} {S:nP} {w w':wD} {v:Value}:LfF S w w' (FS c fb m w v) (∀k,S k->k≠fb/\v.ownBlock≠some k) (FS c fb m w' v):=⟨fun x s h=>Bk.FS.fr h x s⟩
def RepR (c fb m:Nat) (w:wD) (v:Value):Ending->wD->Prop:=fun e w'=>e = .returned (.tuple #[]) /\ ∃v',FS c fb m w' v'/\Fr (fun k=>k=fb\/v.ownBlock=some k) w w' /\ ∀g,v'.ownBlock=some g->v.ownBlock=some g\/w.heap.size<=g
def RepR.ret {c fb m:Nat} {w:wD} {v:Value} {e:Ending} {w':wD} (h:RepR c fb m w v e w') : ∃v,e = .returned v:=⟨_,h.1⟩
def Ia (c fb m:Nat) (v:Value) (p Y:Int) (s:lB) (S:nP) (pa:oA) (pn pc:Nat) (w:wD) (hm:m<=1000000000) (hn:pn<=1000000) (Z:PathAt S w pa pn pc) (hf:FS c fb m w v) :
 Calls prog 87 #[.int .i64 p,.slice pa pn pc,str s,.int .i64 Y,.pointer (some ⟨fb,0,none⟩)] w (RepR c fb (m+QP Y) w v):=by
 obtain ⟨M,V,ac,hc⟩:=hf;have HC:=bA (fun (w:wD) (h:PathAt S w pa pn pc)=>h.clone hn);have X:=dI w;by_cases he:Y=0
 . subst he;have e0:m+QP 0=m:=rfl;rw [e0];refine Af func87 ntmps87 rfl rfl ?_;refine cS (C1 Mv (C1 V2 (cT (Hj (As (Bn rfl ?_))))));exact ⟨rfl,v,⟨M,V,ac,by have:=X.size;omega⟩,(Eff.of_ext X).fr,fun _ h=>bC h⟩
 . have e1:QP Y=1:=AE he;rw [e1];have ad : ∀g,v.ownBlock=some g->g<w.heap.size/\g≠fb:=fun g hg=>⟨V.lt hg,fun e=>ac (e▸hg)⟩
   have a2:=M.lt;have ae:cB m ()++[()]=cB (m+1) ():=by rw [List.replicate_succ']
   have ak:(cB m ()).length<=1000000000:=by simp;omega
   have N:=eG (fun k=>k=fb\/v.ownBlock=some k) w;refine Af func87 ntmps87 rfl rfl ?_;refine eK ?_;refine AC (fun wz=>Ext w wz) 8 (.pure 0 (.pure 1 (.pure 2 (.pure 4 (.pure 5 (.fork 3 (.pure 6 (.fork 7 .tail .none)) .none)))))) mixed Bl An ?_;intro ai af _;have f:(fun wz=>Ext w wz) ai:=af;simp only at f;have al:=Z;have am:=M;have an:=V;revert Z M V X N;refine eY af ?_;intro a3 Z M V X N;refine ⟨f,?_⟩;refine eT ?_;refine tC rfl rfl (HC.out _ Ag) ?_;rintro _ a4 ⟨a5,⟨a6,⟨⟨⟩,aj⟩⟩⟩;revert f Z M V X N;refine eY aj ?_;intro ao f Z M V X N;refine ⟨f,?_⟩;refine Tq rfl (xB [_,_,_,_]) ?_;refine A1 rfl (xS [_,_,_,_]) rfl ?_ aFh A7;rintro _ ap ⟨aq,rfl,E,ar⟩;have F:=E.blk;have ag:=E.ext;have au:=E.pos;have av:=E.size;revert f Z M V X N;refine eE ag ?_;intro f Z M V X N;refine ⟨f,?_⟩;refine AF rfl ?_;refine Au (Jz (R:=fun _=>False) (sh:=Hz 4) (z:=()) Ac CM rfl rfl rfl rfl Bl rfl rfl rfl Ag (fun _ h=>by exact h) (eC Ag) ⟨rfl,rfl⟩ Ab Ab) rfl ?_ aFh;rintro _ aw ⟨O,⟨ah,⟨rfl,⟨aa,⟨U,⟨ax,L⟩⟩⟩⟩⟩⟩;have ay:=L.size;have F:=dQ F L (fun h=>by have:=ad _ h;omega);clear Z;have M:=dQ M L (fun h=>by have:=ad _ h;omega);clear V;have N:=Fr.fr N L (fun k hk=>bC (bF hk));refine eS [_] M ?_;intro az a0 ab a1;clear M;have aa:=OwnQ.fr aa ab (fun k hk=>⟨id,fun e=>by (obtain rfl:=bO (show some O=some k from e);rcases U with h|h;have:=ad _ h;omega;omega)⟩);revert F N;refine eF ab ?_;intro F N;refine Ah (Bn rfl ?_)
   have a7:=N.size;refine ⟨rfl,_,⟨Ag,by rw [<-ae];assumption,fun e=>?_,Ab⟩,N,fun g hg=>?_⟩
   . obtain rfl:=bO (show some O=some fb from e);rcases U with h|h
     . exact ac h
     . omega
   obtain rfl:=bO (show some O=some g from hg);rcases U with h|h
   . exact bC h
   . exact bF Ab
def Vm (c fb:Nat) (rf:FuncId) (ca:lV) (E:wD->Value->Prop):Prop:=
 (∀w v w' v',E w v->Eff fb w v w' v'->E w' v') /\
 ∀(m:Nat) (v:Value) (err:Int) (s:lB) (S:nP) (pa:oA) (pn pc:Nat) (w:wD),m<=1000000000->pn<=1000000->PathAt S w pa pn pc->FS c fb m w v->E w v ->
  Calls prog rf ([.slice pa pn pc,str s,.int .i64 err]++ca).toArray w (RepR c fb (m+QP err) w v)
def L3 (fb:Nat):Value:=.func (.func 87) #[] #[.pointer (some ⟨fb,0,none⟩)]
def TK (c fb E F:Nat) (i:Int):Vm c fb 92 [.pointer (some ⟨E,0,none⟩),.pointer (some ⟨F,0,none⟩)] (fun w v=>Blk w E [L3 fb]/\Blk w F [.int .i64 i]/\Kp fb w v E/\Kp fb w v F):=by
 refine ⟨fun w v w' v' ⟨h1,L,h3,M⟩ k=>⟨h1.fr k.fr h3.not,L.fr k.fr M.not,h3.eff k,M.eff k⟩,?_⟩;rintro m v f s S O U V w hm hn X Y ⟨h1,L,-,-⟩;have HR:=bA (Ia c fb m v i f s S O U V w hm hn X Y);unfold L3 at h1;clear X Y;show Calls prog 92 #[.slice O U V,str s,.int .i64 f,.pointer (some ⟨E,0,none⟩),.pointer (some ⟨F,0,none⟩)] w _;have N:=eG (fun k=>k=fb\/v.ownBlock=some k) w;refine Af func92 ntmps92 rfl rfl ?_;refine eK ?_;refine Au (B4 (fi:=[]) (ca:=[.pointer (some ⟨fb,0,none⟩)]) Bl rfl rfl HR.out (fun _ _ h=>h.ret)) rfl ?_ aFh;rintro _ w5 ⟨⟨⟩,⟨aa,⟨L,⟨Z,M⟩⟩⟩⟩;have z6:=Z.size;have N:=Fr.fr N Z (fun k hk=>bC hk);refine Ah (Bn rfl ?_);exact ⟨rfl,_,Ag,N,Ag⟩
def TL (c fb E F:Nat) (g:PG) (va:oA) (vc:Nat) (L:oA) (M:Nat) (ma:oA) (mc:Nat):Vm c fb 93 [.pointer (some ⟨E,0,none⟩),.pointer (some ⟨F,0,none⟩)] (fun w v=>Blk w E [L3 fb]/\Blk w F (g.cells va vc L M ma mc)/\Kp fb w v E/\Kp fb w v F):=by
 refine ⟨fun w v w' v' ⟨h1,N,h3,O⟩ k=>⟨h1.fr k.fr h3.not,N.fr k.fr O.not,h3.eff k,O.eff k⟩,?_⟩;rintro m v f s S V X Y w hm hn Z hf ⟨h1,N,-,-⟩;have HR:=bA (Ia c fb m v g.procs.length f s S V X Y w hm hn Z hf);unfold L3 at h1;clear Z hf;show Calls prog 93 #[.slice V X Y,str s,.int .i64 f,.pointer (some ⟨E,0,none⟩),.pointer (some ⟨F,0,none⟩)] w _;have U:=eG (fun k=>k=fb\/v.ownBlock=some k) w;refine Af func93 ntmps93 rfl rfl ?_;refine eK ?_;refine Au (B4 (fi:=[]) (ca:=[.pointer (some ⟨fb,0,none⟩)]) Bl rfl rfl HR.out (fun _ _ h=>h.ret)) rfl ?_ aFh;rintro _ w5 ⟨⟨⟩,⟨aa,⟨N,⟨f3,O⟩⟩⟩⟩;have z6:=f3.size;have U:=Fr.fr U f3 (fun k hk=>bC hk);refine Ah (Bn rfl ?_);exact ⟨rfl,_,Ag,U,Ag⟩
def OA (e:Int):QP e<=1:=by unfold QP;split<;>omega
def L4 (f:List PD) (v:List VD) (s:lB) (m:Nat) : ∀(l:List Nd) (i:Nat),F3 f v s m i l<=l.length
 | [],_=>by simp [F3]
 | t::r,i=>by
  have:=OA (O2 f v s m i t.name);have:=L4 f v s m r (i+1);simp only [F3,aV];omega
mutual
def Rs (ps:List PD) : ∀(t:Nd) (v:List VD),t.flt ps v<=t.size
 | .mk k n s l,v=>by
  have h1:=OA (Dq ps v k s l.length);have h2:=L4 ps v s l.length l 0;have h3:=Dm l;have h4:=Ki ps l v k s 0;simp only [Nd.flt,dL];split<;>omega
def Ki (ps:List PD) : ∀(l:List Nd) (v:List VD) (k:Int) (s:lB) (i:Nat),EB ps v k s i l<=Am l
 | [],_,_,_,_=>by simp [EB]
 | t::r,v,k,s,i=>by
  have:=Rs ps t (DH k s i v);have:=Ki ps r v k s (i+1);simp only [EB,Am];omega
end
def KQ (f:List PD) (v:List VD) (k:Int) (s:lB) : ∀(l:List Nd) (j i:Nat) (h:j<l.length),EB f v k s i (l.take (j+1))=EB f v k s i (l.take j)+(l[j]).flt f (DH k s (i+j) v)
 | t::r,0,i,_=>by simp [EB]
 | t::r,j+1,i,h=>by
  simp only [dE,EB,aW];rw [KQ f v k s r j (i+1) (by simpa using h)];rw [show i+1+j=i+(j+1) by omega];omega
def L5 (f:List PD) (v:List VD) (s:lB) (m:Nat) : ∀(l:List Nd) (j i:Nat) (h:j<l.length),F3 f v s m i (l.take (j+1))=F3 f v s m i (l.take j)+QP (O2 f v s m (i+j) (l[j]).name)
 | t::r,0,i,_=>by simp [F3]
 | t::r,j+1,i,h=>by
  simp only [dE,F3,aW];rw [L5 f v s m r j (i+1) (by simpa using h)];rw [show i+1+j=i+(j+1) by omega];omega
def IP : ∀(l:List Nd) {j:Nat} (h:j<l.length),Am (l.take j)+l[j].size<=Am l
 | t::r,0,_=>by simp [Am]
 | t::r,j+1,h=>by
  have:=IP r (j:=j) (by simpa using h);simp only [dE,Am,aW];omega
set_option maxHeartbeats 8000000 in
def P8 (c fb:Nat) (dx:c<=fb) (rf:FuncId) (ca:lV) (bs:Fl prog rf=true) (E:wD->Value->Prop) (hR:Vm c fb rf ca E) (g:PG) (hg:g.procs.length<=1000000) (va:oA) (vc:Nat) (pa:oA) (pc:Nat) (ma:oA) (mc:Nat) (N:Nat) :
 ∀(t:Nd) (vs:List VD) (Sv Sp:nP) (ta:oA) (tc:Nat) (la:oA) (lc:Nat) (qa:oA) (qn qc:Nat) (w:wD) (v:Value) (m:Nat),t.size<N->vs.length+t.size<=1000000->qn+t.size<=1000000->m+t.size<=1000000000->t.sits (· < c) w ta->PDs (· < c) w g.procs pa->VDs Sv w vs la->vs.length<=lc->PathAt Sp w qa qn qc->(∀b,Sv b->Kp fb w v b)->(∀b,Sp b->Kp fb w v b)->FS c fb m w v->E w v ->
  Calls prog 91 #[.agg (g.cells va vc pa pc ma mc).toArray,t.val ta tc,.slice qa qn qc,.slice la vs.length lc,.func (.func rf) #[] ca.toArray] w (RepR c fb (m+t.flt g.procs vs) w v):=by
 induction N with
 | zero=>intro t vs Sv Sp ta tc la lc qa qn qc w v m h;omega
 | succ N ih=>
  rintro ⟨k,n,s,l⟩ vs Sv Sp ta tc la lc qa qn qc w v m hN co cp cq O f F bh L bi bj hF hE;have hz:(Nd.mk k n s l).size=1+Am l:=by rw [dL]
  have c5:=Dm l;rw [hz] at hN co cp cq;have IH:=bA ih;have au:=bA hR.1;have bt:=bA hR.2;have ba : ∀b,Sv b -> ¬(b=fb\/v.ownBlock=some b):=fun b U=>(bi b U).not
  have bb : ∀b,Sp b -> ¬(b=fb\/v.ownBlock=some b):=fun b U=>(bj b U).not
  have al : ∀g,v.ownBlock=some g->c<=g/\g<w.heap.size:=fun g hg=>⟨hF.own.ge hg,hF.own.lt hg⟩
  have dy:=hF.cell.lt;have av:=bA bi;have a5:=bA bj;have bu:=bA (Xm g hg k n s l ta tc vs Ab (· < c) Sv va vc pa pc ma mc la lc);have bc:=bA (fun (w':wD) (x:Ext w w') (p:PathAt Sp w' qa qn qc)=>bt.out m v (Dq g.procs vs k s l.length) s Sp qa qn qc w' Ab Ab p (hF.ext x) (au.out _ _ _ _ hE (Eff.of_ext x)));have bk:=bA hE;clear ih hR bi bj hE hF;have X:=dI w;have X2:=eG (fun k=>k=fb\/v.ownBlock=some k) w;have O:=EV O;show Calls prog 91 #[.agg (g.cells va vc pa pc ma mc).toArray,.agg #[.int .u8 k,.int .i64 n,str s,.slice ta l.length tc],.slice qa qn qc,.slice la vs.length lc,.func (.func rf) #[] ca.toArray] w _;refine Af func91 ntmps91 rfl rfl ?_;refine cS (eB [_,_,_,_,_,_] ?_);intro b1 w2 V x5 p6 z7;revert f F L X X2 O;refine eE x5 ?_;intro f F L X X2 O;refine eB [_,_,_,_] ?_;intro b8 w9 M cr dz d0;revert V f F L X X2 O;refine eE cr ?_;intro V f F L X X2 O;refine eK ?_;refine AC (fun wz=>Ext w9 wz) 8 (.pure 0 (.pure 1 (.pure 2 (.pure 3 (.pure 4 (.pure 5 (.pure 6 (.fork 7 .tail .none)))))))) mixed Bl (Aa An) ?_;intro ct bv _;have ah:(fun wz=>Ext w9 wz) ct:=bv;simp only at ah;have af:=M;have ai:=V;have aw:=f;have ax:=F;have ay:=L;have bd:=O;revert M V f F L X X2 O;refine eY bv ?_;intro d1 M V f F L X X2 O;refine ⟨ah,?_⟩;refine eT ?_;refine Tq rfl (xL [_,_,_,_,_,_] (fun wz hz=>(dV ai hz))) (Tq rfl (xL [_,_,_,_] (fun wz hz=>(dV af hz))) (Tq rfl Mv ?_));refine tC rfl rfl (bu.out _ Ag Ag) ?_;rintro _ d2 ⟨⟨⟩,cu⟩;revert ah M V f F L X X2 O;refine eY cu ?_;intro z22 ah M V f F L X X2 O;refine ⟨ah,?_⟩;refine AF rfl ?_;refine Au (B4 (fi:=[]) (ca:=ca) bs rfl rfl (bc.out _ Ag Ag) (fun _ _ h=>h.ret)) rfl ?_ aFh
  rintro _ a6 ⟨⟨⟩,⟨an,⟨a7,⟨aj,a8⟩⟩⟩⟩;have d3:=aj.size;have M:=dQ M aj (fun h=>by (rcases h with h|h;omega;have:=al _ h;omega));have V:=dQ V aj (fun h=>by (rcases h with h|h;omega;have:=al _ h;omega));have f:=PDs.fr f aj (fun b U h=>by (rcases h with h|h;omega;have:=al _ h;omega));have F:=fD F aj (ba);have L:=PathAt.fr L aj (bb);have X2:=Fr.fr X2 aj (fun k hk=>bC hk);have O:=fN O aj (fun b U h=>by (rcases h with h|h;omega;have:=al _ h;omega));refine cT (Aj ?_);have e1:Eff fb w v a6 an:=⟨X2,fun g hg=>(a8 g hg).imp id fun h=>by omega⟩;have k1:Kp fb a6 an b1:=⟨V.lt,Ab,fun e=>by rcases a8 _ e with h|h;(have:=al _ h;omega);omega⟩;have k8:Kp fb a6 an b8:=⟨M.lt,Ab,fun e=>by rcases a8 _ e with h|h;(have:=al _ h;omega);omega⟩;have EE:=bA (au.out);have bw:=bA (au.out _ _ _ _ bk.out e1);have be:(Nd.mk k n s l).flt g.procs vs=QP (Dq g.procs vs k s l.length)+(if k=50\/k=51 then F3 g.procs vs s l.length 0 l else EB g.procs vs k s 0 l):=by rw [Nd.flt]
  rw [be];have d4:=OA (Dq g.procs vs k s l.length);clear be;generalize QP (Dq g.procs vs k s l.length)=m0 at *;clear bc bu ba bb al a8 X2;generalize an=v1 at *;refine Fu (ι:=Unit) (fun _=>[(2,.slice qa qn qc),(3,.slice la vs.length lc),(4,.func (.func rf) #[] ca.toArray),(5,.pointer (some ⟨b1,0,none⟩)),(6,.pointer (some ⟨b8,0,none⟩)),(30,.bool (decide (k=50\/k=51)))]) (fun _ w'=>w'=a6) ?_ ?_
  . focus
     refine eK ?_;refine Cm rfl rfl rfl (fun cv=>?_) (fun cv=>?_);refine N1 (N1 (N1 (C1 SZ (Ah ?_))));rotate_left;refine S3 (C1 Pg (S3 (C1 (Pl M) (S3 (C1 V1 (C1 S0 (Ah ?_)))))));rotate_left
    all_goals exact BL () (Ak rfl (Ak rfl (Ak rfl (Ak rfl (Ak rfl (AW rfl (congrArg dF (by first|exact (decide_eq_true Ab).symm|exact decide_eq_decide.2 Ab)) AY)))))) rfl
  rintro-w0 h;subst h;by_cases hk:k=50\/k=51
  . rw [AU hk];clear IH;refine OX (Aj (cS (C1 Pf (C1 (Pl M) (C1 Pz (C1 Mv (cT ?_)))))));refine Ar ?_;refine AJ (ι:=Nat×Value) (fun x=>[(2,.slice qa qn qc),(3,.slice la vs.length lc),(4,.func (.func rf) #[] ca.toArray),(5,.pointer (some ⟨b1,0,none⟩)),(6,.pointer (some ⟨b8,0,none⟩)),(32,.slice ta l.length tc),(33,.int .i64 l.length),(34,.int .i64 x.1)])
     (fun x w'=>x.1<=l.length/\FS c fb (m+m0+F3 g.procs vs s l.length 0 (l.take x.1)) w' x.2/\Eff fb w v w' x.2/\Kp fb w' x.2 b1/\Kp fb w' x.2 b8/\Blk w' b8 [.int .u8 k,.int .i64 n,str s,.slice ta l.length tc]/\Blk w' b1 (g.cells va vc pa pc ma mc)/\PDs (· < c) w' g.procs pa/\VDs Sv w' vs la/\PathAt Sp w' qa qn qc/\rowSits (· < c) w' l ta)
     (fun x=>l.length-x.1) (0,v1) sB ⟨bI _,a7,e1,k1,k8,M,V,f,F,L,O⟩ ?_
    clear a7 e1 k1 k8 M V f F L O bw;rintro ⟨j,vj⟩ w3 ⟨hj,hF,e3,k1,k8,M,V,f,F,L,O⟩;simp only at hj hF e3 k1 k8 M V f F L O;by_cases ag:j<l.length
    . have Y : ∀g,vj.ownBlock=some g->c<=g/\g<w3.heap.size/\g≠b1/\g≠b8:=fun g hg=>⟨hF.own.ge hg,hF.own.lt hg,fun e=>k1.2.2 (e▸hg),fun e=>k8.2.2 (e▸hg)⟩
      have az : ∀b,Sv b -> ¬(b=fb\/vj.ownBlock=some b):=fun b U=>((av.out b U).eff e3).not
      have a0 : ∀b,Sp b -> ¬(b=fb\/vj.ownBlock=some b):=fun b U=>((a5.out b U).eff e3).not
      have a1 : ∀b,Sv b->b<w3.heap.size:=fun b U=>((av.out b U).eff e3).1
      have a2 : ∀b,Sp b->b<w3.heap.size:=fun b U=>((a5.out b U).eff e3).1
      have bl:=k1.not;have bm:=k8.not;have cw:=k1.1;have cx:=k8.1;have bx:=hF.cell.lt;have bn:=bA (EE.out _ _ _ _ bk.out e3);have bz:=L4 g.procs vs s l.length (l.take j) 0;rw [cH] at bz;have am:=L5 g.procs vs s l.length l j 0 ag;rw [Nat.zero_add] at am;obtain ⟨kb,ko,rfl,kS,ak⟩:=Ba O (by intro e;subst e;simp at ag);obtain ⟨xa,xc,rx,-⟩:=ak j l[j] (aY ag);have b0:=bA (P7 g hg k n s l Ab j ag vs Ab);have a3:=bA (fun (w':wD) (x:Ext w3 w') (S:nP) (pa:oA) (pn pc:Nat) (hp:pn<=1000000) (p:PathAt S w' pa pn pc)=>bt.out (m+m0+F3 g.procs vs s l.length 0 (l.take j)) vj (O2 g.procs vs s l.length j l[j].name) l[j].name S pa pn pc w' Ab hp p (hF.ext x) (au.out _ _ _ _ bn.out (Eff.of_ext x)));have E3:=bA e3;clear ak hF e3;have a4:m+m0+F3 g.procs vs s l.length 0 (l.take (j+1))=m+m0+F3 g.procs vs s l.length 0 (l.take j)+QP (O2 g.procs vs s l.length j l[j].name):=by rw [am];omega
      rw [<-a4] at a3;clear am a4;generalize l[j]=x at *;generalize O2 g.procs vs s l.length j x.name=ex at *;have X3:=dI w3;have X4:=eG (fun k=>k=fb\/vj.ownBlock=some k) w3;refine eK ?_;refine eA [_,_,_,_] ?_;intro d5 d6 cy cz d7 d8;revert V f F L M O rx X3 X4;refine eE cz ?_;intro V f F L M O rx X3 X4;refine C1 Pa (eS [_,_,_,_] cy ?_);intro b2 ad ao c6;revert V f;refine eF ao ?_;intro V f;have F:=fD F ao (fun b U e=>by have:=a1 b U;omega);have L:=PathAt.fr L ao (fun b U e=>by have:=a2 b U;omega);revert M O rx X3 X4;refine eF ao ?_;intro M O rx X3 X4;refine cT (AC (fun wz=>Ext b2 wz) 11 (.pure 0 (.pure 1 (.pure 2 (.pure 4 (.pure 5 (.pure 6 (.pure 7 (.pure 8 (.pure 9 (.fork 3 (.fork 10 .tail .none) .none)))))))))) mixed Bl (Al (Aa (Aa (Al (Aa (Aa An)))))) ?_);intro b3 bf _;have Z:(fun wz=>Ext b2 wz) b3:=bf;simp only at Z;have cn:=ad;have ai:=V;have aw:=f;have ax:=F;have ay:=L;have af:=M;have bd:=O;have b4:=rx;revert ad V f F L M O rx X3 X4;refine eY bf ?_;intro c7 ad V f F L M O rx X3 X4;refine ⟨Z,?_⟩;refine eT ?_;refine Tq rfl (xL [_,_,_,_,_,_] (fun wz hz=>(dV ai hz))) (Tq rfl (xL [_,_,_,_] (fun wz hz=>(dV af hz))) (Tq rfl Mv (Tq rfl Mv ?_)));refine tC rfl rfl (Su _ _ _ _ _ _ Ab Ag) ?_
      rintro _ c8 ⟨c9,⟨da,⟨⟨⟩,⟨ap,b5⟩⟩⟩⟩;revert Z ad V f F L M O rx X3 X4;refine eY b5 ?_;intro db Z ad V f F L M O rx X3 X4;refine ⟨Z,?_⟩;refine tC rfl rfl (b0.out _ _ _ _ _ _ _ _ _ _ _ _ _ _ Ag Ag Ag) ?_;rintro _ dc ⟨⟨⟩,b6⟩;revert ap Z ad V f F L M O rx X3 X4;refine eY b6 ?_;intro dd ap Z ad V f F L M O rx X3 X4;refine ⟨Z,?_⟩;refine AF rfl ?_;refine Au (B4 (fi:=[]) (ca:=ca) bs rfl rfl (a3.out _ Ag _ _ _ _ Ab Ag) (fun _ _ h=>h.ret)) rfl ?_ aFh;rintro _ b7 ⟨⟨⟩,⟨bo,⟨b9,⟨ac,cb⟩⟩⟩⟩;have de:=ac.size;have ap:=PathAt.fr ap ac (fun b U h=>by (rcases h with h|h;omega;have:=Y _ h;omega));have ad:=dQ ad ac (fun h=>by (rcases h with h|h;omega;have:=Y _ h;omega));have V:=dQ V ac (bl);have f:=PDs.fr f ac (fun b U h=>by (rcases h with h|h;omega;have:=Y _ h;omega));have F:=fD F ac (az);have L:=PathAt.fr L ac (a0);have M:=dQ M ac (bm);have O:=fN O ac (fun b U h=>by (rcases h with h|h;omega;have:=Y _ h;omega));clear rx;have X4:=Fr.fr X4 ac (fun k hk=>bC hk);refine Ah (Ae (Ai (Ad (C1 V7 (C1 Mv (Ah ?_))))));have e4:Eff fb w3 vj b7 bo:=⟨X4,fun g hg=>(cb g hg).imp id fun h=>by omega⟩
      exact Aw (j+1,_) sB ⟨by simp only;omega,b9,E3.out.trans e4,k1.eff e4,k8.eff e4,M,V,f,F,L,O⟩ (by simp only;omega)
    . obtain rfl:j=l.length:=by omega
      rw [bH] at hF;refine eK ?_;refine Wq rfl ?_;rw [<-Nat.add_assoc];exact ⟨rfl,vj,hF,e3.fr,e3.new⟩
  . rw [AE hk];refine N0 (As (Ai (cS (C1 Pf (C1 (Pl M) (C1 Pz (C1 Mv (cT ?_))))))));refine Ar ?_;refine AJ (ι:=Nat×Value) (fun x=>[(2,.slice qa qn qc),(3,.slice la vs.length lc),(4,.func (.func rf) #[] ca.toArray),(5,.pointer (some ⟨b1,0,none⟩)),(6,.pointer (some ⟨b8,0,none⟩)),(53,.slice ta l.length tc),(54,.int .i64 l.length),(55,.int .i64 x.1)])
     (fun x w'=>x.1<=l.length/\FS c fb (m+m0+EB g.procs vs k s 0 (l.take x.1)) w' x.2/\Eff fb w v w' x.2/\Kp fb w' x.2 b1/\Kp fb w' x.2 b8/\Blk w' b8 [.int .u8 k,.int .i64 n,str s,.slice ta l.length tc]/\Blk w' b1 (g.cells va vc pa pc ma mc)/\PDs (· < c) w' g.procs pa/\VDs Sv w' vs la/\PathAt Sp w' qa qn qc/\rowSits (· < c) w' l ta)
     (fun x=>l.length-x.1) (0,v1) sB ⟨bI _,a7,e1,k1,k8,M,V,f,F,L,O⟩ ?_
    clear a7 e1 k1 k8 M V f F L O bw;rintro ⟨j,vj⟩ w3 ⟨hj,hF,e3,k1,k8,M,V,f,F,L,O⟩;simp only at hj hF e3 k1 k8 M V f F L O;by_cases ag:j<l.length
    . have Y : ∀g,vj.ownBlock=some g->c<=g/\g<w3.heap.size/\g≠b1/\g≠b8:=fun g hg=>⟨hF.own.ge hg,hF.own.lt hg,fun e=>k1.2.2 (e▸hg),fun e=>k8.2.2 (e▸hg)⟩
      have az : ∀b,Sv b -> ¬(b=fb\/vj.ownBlock=some b):=fun b U=>((av.out b U).eff e3).not
      have a0 : ∀b,Sp b -> ¬(b=fb\/vj.ownBlock=some b):=fun b U=>((a5.out b U).eff e3).not
      have a1 : ∀b,Sv b->b<w3.heap.size:=fun b U=>((av.out b U).eff e3).1
      have a2 : ∀b,Sp b->b<w3.heap.size:=fun b U=>((a5.out b U).eff e3).1
      have bl:=k1.not;have bm:=k8.not;have cw:=k1.1;have cx:=k8.1;have bx:=hF.cell.lt;have df:=hF.le;have bn:=bA (EE.out _ _ _ _ bk.out e3);have d9:=Ki g.procs (l.take j) vs k s 0;have am:=KQ g.procs vs k s l j 0 ag;rw [Nat.zero_add] at am;have ea:=IP l ag;obtain ⟨kb,ko,rfl,kS,ak⟩:=Ba O (by intro e;subst e;simp at ag);obtain ⟨xa,xc,rx,sx⟩:=ak j l[j] (aY ag);have dg:(DH k s j vs).length<=vs.length+1:=by unfold DH;split<;>(try split)<;>simp
      have HV:=bA (fun (w':wD) (x:Ext w3 w') (bp bq:nP) (cc:oA) (cd:Nat) (ce:oA) (cf:Nat) (O:(l[j]).sits (· < c) w' xa) (f:PDs (· < c) w' g.procs pa) (F:VDs bp w' (DH k s j vs) cc) (bh:(DH k s j vs).length<=cd) (L:PathAt bq w' ce (qn+1) cf) (c0 : ∀b,bp b->Sv b\/(w3.heap.size<=b/\b<w'.heap.size)) (c1 : ∀b,bq b->w3.heap.size<=b/\b<w'.heap.size)=>
       IH.out l[j] (DH k s j vs) bp bq xa xc cc cd ce (qn+1) cf w' vj (m+m0+EB g.procs vs k s 0 (l.take j)) Ab Ab Ab Ab O f F bh L
        (fun b U=>by
         rcases c0 b U with h|h
         . exact ((av.out b h).eff e3).eff (Eff.of_ext x)
         . exact ⟨h.2,Ab,fun e=>by have:=Y _ e;omega⟩)
        (fun b U=>by have h:=c1 b U;exact ⟨h.2,Ab,fun e=>by have:=Y _ e;omega⟩) (hF.ext x) (au.out _ _ _ _ bn.out (Eff.of_ext x)))
      have a4:m+m0+EB g.procs vs k s 0 (l.take (j+1))=m+m0+EB g.procs vs k s 0 (l.take j)+(l[j]).flt g.procs (DH k s j vs):=by rw [am];omega
      rw [<-a4] at HV;have c2:=bA (Xl k n s l (some ⟨kb,ko,none⟩) tc j vs Ab Sv la lc);have E3:=bA e3;clear ak hF e3 am a4;generalize DH k s j vs=eb at *;generalize l[j]=x at *;have X3:=dI w3;have X4:=eG (fun k=>k=fb\/vj.ownBlock=some k) w3;refine eK ?_;refine eA [_,_,_,_] ?_;intro ec ed c3 c4 ee ef;revert V f F L M O rx sx X3 X4;refine eE c4 ?_;intro V f F L M O rx sx X3 X4;refine C1 Pa (eS [_,_,_,_] c3 ?_);intro cg ae aq dh;revert V f;refine eF aq ?_;intro V f;have F:=fD F aq (fun b U e=>by have:=a1 b U;omega);have L:=PathAt.fr L aq (fun b U e=>by have:=a2 b U;omega);revert M O rx sx X3 X4;refine eF aq ?_;intro M O rx sx X3 X4;refine cT (AC (fun wz=>Ext cg wz) 10 (.pure 0 (.pure 1 (.pure 2 (.pure 3 (.pure 5 (.pure 6 (.pure 7 (.pure 9 (.fork 4 (.fork 8 .tail .none) .none))))))))) mixed Bl (Al (Aa (Aa (Al An)))) ?_);intro ch bg _;have aa:(fun wz=>Ext cg wz) ch:=bg;simp only at aa;have a9:=ae;have ai:=V;have aw:=f;have ax:=F;have ay:=L;have af:=M;have bd:=O;have b4:=rx;have di:=sx;revert ae V f F L M O rx sx X3 X4;refine eY bg ?_;intro dk ae V f F L M O rx sx X3 X4;refine ⟨aa,?_⟩;refine Tq rfl (xL [_,_,_,_,_,_] (fun wz hz=>(dV ai hz))) (Tq rfl (xL [_,_,_,_] (fun wz hz=>(dV a9 hz))) (Tq rfl Mv (Tq rfl Mv (Tq rfl (xL [_,_,_,_] (fun wz hz=>(dV af hz))) ?_))))
      refine eT ?_;refine tC rfl rfl (Su _ _ _ _ _ _ Ab Ag) ?_;rintro _ dl ⟨dm,⟨dn,⟨⟨⟩,⟨ar,ci⟩⟩⟩⟩;revert aa ae V f F L M O rx sx X3 X4;refine eY ci ?_;intro dp aa ae V f F L M O rx sx X3 X4;refine ⟨aa,?_⟩;refine tC rfl rfl (c2.out _ bh Ag) ?_;rintro _ dq ⟨dr,⟨ds,⟨⟨⟩,⟨dt,⟨du,cj⟩⟩⟩⟩⟩;revert ar aa ae V f F L M O rx sx X3 X4;refine eY cj ?_;intro dv ar aa ae V f F L M O rx sx X3 X4;refine ⟨aa,?_⟩;refine AF rfl (cC rfl (HV.out _ Ag _ _ _ _ _ _ Ag Ag Ag Ab Ag (by (intro b U;rcases U with U|U;exact bC U;exact bF ⟨Ab,Ab⟩)) (by (intro b U;exact ⟨Ab,Ab⟩))) ?_);rintro _ ck ⟨⟨⟩,⟨br,⟨cl,⟨ab,cm⟩⟩⟩⟩;have dw:=ab.size;have ar:=PathAt.fr ar ab (fun b U h=>by (rcases h with h|h;omega;have:=Y _ h;omega));have ae:=dQ ae ab (fun h=>by (rcases h with h|h;omega;have:=Y _ h;omega));have V:=dQ V ab (bl);have f:=PDs.fr f ab (fun b U h=>by (rcases h with h|h;omega;have:=Y _ h;omega));have F:=fD F ab (az);have L:=PathAt.fr L ab (a0);have M:=dQ M ab (bm);have O:=fN O ab (fun b U h=>by (rcases h with h|h;omega;have:=Y _ h;omega));clear rx;have sx:=eO sx ab (fun b U h=>by (rcases h with h|h;omega;have:=Y _ h;omega));have X4:=Fr.fr X4 ab (fun k hk=>bC hk);refine Ah (Ae (Ai (Ad (C1 V7 (C1 Mv (Ah ?_))))))
      have e4:Eff fb w3 vj ck br:=⟨X4,fun g hg=>(cm g hg).imp id fun h=>by omega⟩
      exact Aw (j+1,_) sB ⟨by simp only;omega,cl,E3.out.trans e4,k1.eff e4,k8.eff e4,M,V,f,F,L,O⟩ (by simp only;omega)
    . obtain rfl:j=l.length:=by omega
      rw [bH] at hF;refine cS (C1 V3 (cT (Aj (C9 (CB (AG (AG (A8 (Bn rfl ?_)))))))));rw [<-Nat.add_assoc];exact ⟨rfl,vj,hF,e3.fr,e3.new⟩
def Ib : ∀(l acc:List VD) (i:Nat) (h:i<l.length),CD acc (l.take (i+1))=CD acc (l.take i)+QP (Fm (acc++l.take i) (l[i]).name)
 | v::r,acc,0,_=>by simp [CD]
 | v::r,acc,i+1,h=>by
  simp only [dE,CD,aW];rw [Ib r (acc++[v]) i (by simpa using h)];simp only [cF,List.singleton_append];omega
def FB : ∀(l acc:List VD),CD acc l<=l.length
 | [],_=>by simp [CD]
 | v::r,acc=>by
  have:=OA (Fm acc v.name);have:=FB r (acc++[v]);simp only [CD,aV];omega
def L6 (ps:List PD) (i:Nat) (p:PD):Nat:=(if (FI ps p.name).getD i<i then 1 else 0)+CD [] p.params+p.body.flt ps p.params
def KR (f:List PD) : ∀(l:List PD) (i j:Nat) (h:j<l.length),EC f i (l.take (j+1))=EC f i (l.take j)+L6 f (i+j) l[j]
 | p::r,i,0,_=>by simp [EC,L6]
 | p::r,i,j+1,h=>by
  simp only [dE,EC,aW];rw [KR f r (i+1) j (by simpa using h)];rw [show i+1+j=i+(j+1) by omega];omega
def Vn {f:List PD} {i:Nat} (h:i<f.length):decide (H9 f (f[i]).name<(i:Int))=decide ((FI f (f[i]).name).getD i<i):=by
 unfold H9;cases hq:FI f (f[i]).name with
 | none=>
  exfalso;unfold FI at hq;rw [List.findIdx?_eq_none_iff] at hq;have:=hq f[i] (bD h);simp at this
 | some j=>simp
def VD.ok (v:VD):Bool:=A9 v.name&&if v.kind=1\/v.kind=3 then v.len==0 else if v.kind=2 then decide (1<=v.len)&&decide (v.len<=16) else false
def C6 (l:List VD):Bool:=l.all VD.ok
mutual
def Nd.lim:Nd->Int->Int->Bool×Int
 | .mk _ _ _ l,d,m=>if d=0\/m=0 then (false,m) else Cq l (d-1) (m-1)
def Cq:List Nd->Int->Int->Bool×Int
 | [],_,m=>(true,m)
 | t::r,d,m=>if (t.lim d m).1 then Cq r d (t.lim d m).2 else (false,(t.lim d m).2)
end
def Eb (t:Nd):Bool:=(t.lim 80 2000).1&&t.isBlock
def PD.ok (p:PD):Bool:=A9 p.name&&decide (p.params.length<=8)&&C6 p.params&&Eb p.body
def PG.ok (g:PG):Bool:=decide (g.vars.length<=32)&&decide (g.procs.length<=64)&&C6 g.vars&&g.procs.all PD.ok&&Eb g.main
end Bk
namespace Bk
open Go Go.RowKit Go.Proofs
structure VD.wf (v:VD):Prop where
 name:v.name.length<=9223372036854775807
 k0:0<=v.kind
 k1:v.kind<=255
 l0 : -9223372036854775808<=v.len
 l1:v.len<=9223372036854775807
def P9 {l:List VD} {j:Nat} (h:j<l.length) (f:l[j].ok=false):C6 l=false:=by
 unfold C6;rw [List.all_eq_false];exact ⟨l[j],bD h,by simp [f]⟩
def Ru {l:List VD} (h : ∀j (F:j<l.length),l[j].ok=true):C6 l=true:=by
 unfold C6;rw [cX];intro x f;obtain ⟨i,E,rfl⟩:=List.mem_iff_getElem.1 f;exact h i E
def L7 (l:List VD) (S:nP) (a:oA) (c:Nat) (w:wD) (hl:l.length<=9223372036854775807) (Z : ∀v∈l,v.wf) (hs:VDs S w l a) :
 Calls prog 85 #[.slice a l.length c] w fun e w'=>e = .returned (.bool (C6 l))/\Ext w w':=by
 refine Af func85 ntmps85 rfl rfl ?_;refine eK ?_;refine AJ (ι:=Nat) (fun j=>[(7,.int .i64 j),(6,.int .i64 l.length),(5,.slice a l.length c)]) (fun j w'=>Ext w w'/\j<=l.length /\ ∀i (M:i<l.length),i<j->l[i].ok=true) (fun j=>l.length-j) 0 sB ⟨dI _,Ab,Ab⟩ ?_;rintro j w1 ⟨x1,hj,N⟩;have Y:=bA N;clear N;by_cases U:j<l.length
 . obtain ⟨kb,ko,rfl,-,O⟩:=Arr.get (hs.ext x1) Ab;have rx:Row w1 ⟨kb,ko+j*3,none⟩ l[j].cells:=O j l[j] (aY U);have wf:=Z l[j] (bD U);have aa:=wf.name;have HF:l[j].ok=false->C6 l=false:=P9 U;have V:=bA HF;clear HF O;generalize hv:l[j]=v at *;have HE:=bA hv;clear hv;refine eK ?_;refine Gj CM rfl rfl ?_;intro b2 w2 E;refine It Ac rfl rfl rfl rfl rfl rfl (E) rfl ?_;clear E w2;intro w2 E;have h2:=E.blk;have x2:=E.ext;refine eK ?_;refine cC rfl (G0 v.name _ aa) ?_;rintro _ w3 ⟨⟨⟩,x3⟩;have h:Ext w w3:=(by refine dK ?_ Ag;refine dK ?_ Ag;assumption);have h3:=h2.ext x3;cases hnm:A9 v.name
   . try rw [hnm]
     refine C1 Pt (Ah (Ai (Fc rfl (by rfl) ?_)));refine eK ?_;refine Be results85 rfl ?_;exact ⟨AI (V.out (by simp [VD.ok,hnm])).symm,h⟩
   try rw [hnm]
   by_cases F:v.kind=1\/v.kind=3
   . by_cases h0:v.len=0
     . have f:v.ok=true:=by simp [VD.ok,hnm,F,h0]
       rcases F with F|F
       . refine C1 Pt (Ah (Ai (Fp rfl (by rfl) (As (Ai (Aj (Ad (C1 Pf (C1 Gi (Ah (Ai ?_)))))))))));refine Ar (Aj (Aj (Ad (C1 V1 (C1 Pa (Ah (Ai (OX (As (Ai (OX ?_)))))))))));refine Aj (Ad (C1 Pf (C1 Gi (C1 V2 (Ah (Ai (C9 (As (Ae (Ae (Ai ?_)))))))))));refine Ad (C1 V7 (C1 Mv (Ah ?_)));refine Aw (j+1) sB ⟨h,Ab,fun i M X=>?_⟩ Ab;by_cases e:i=j
         . subst e;exact HE.out▸f
         . exact Y.out i M Ab
       . refine C1 Pt (Ah (Ai (Fp rfl (by rfl) (As (Ai (Aj (Ad (C1 Pf (C1 Gi (Ah (Ai ?_)))))))))));refine Ar (Aj (Aj (Ad (C1 V1 (C1 Pa (Ah (Ai (C9 (Ad (C1 V1 (C1 Pa ?_)))))))))));refine Ah (Ai (OX (Aj (Ad (C1 Pf (C1 Gi (C1 V2 (Ah (Ai (C9 (As ?_)))))))))));refine Ae (Ae (Ai (Ad (C1 V7 (C1 Mv (Ah ?_))))));refine Aw (j+1) sB ⟨h,Ab,fun i M X=>?_⟩ Ab;by_cases e:i=j
         . subst e;exact HE.out▸f
         . exact Y.out i M Ab
     . have f:v.ok=false:=by simp [VD.ok,hnm,F,h0]
       rcases F with F|F
       . refine C1 Pt (Ah (Ai (Fp rfl (by rfl) ?_)));refine eK ?_;refine Be results85 rfl ?_;exact ⟨AI (V.out f).symm,h⟩
       . refine C1 Pt (Ah (Ai (Fp rfl (by rfl) ?_)));refine eK ?_;refine Be results85 rfl ?_;exact ⟨AI (V.out f).symm,h⟩
   . have ab:v.kind≠1:=fun e=>F (bC e)
     have ac:v.kind≠3:=fun e=>F (bF e)
     by_cases L:v.kind=2
     . by_cases ad:v.len<1
       . have f:v.ok=false:=by simp [VD.ok,hnm,L];omega
         refine C1 Pt (Ah (Ai (Fp rfl (by rfl) (As (Ai (Aj (Ad (C1 Pf (C1 Gi (Ah (Ai ?_)))))))))));refine Ar (Aj (Aj (Ad (C1 V1 (C1 Pa (Ah (Ai (N0 (Ad (C1 V1 (C1 Pa ?_)))))))))));refine Ah (Ai (N0 (Aj (Ad (C1 V1 (C1 Pa (Ah (Ai (OX (Aj (Ad ?_)))))))))));refine C1 Pf (C1 Gi (C1 V3 (C1 Mv (Bz rfl rfl rfl Ag rfl (Bz rfl rfl rfl Ag rfl (Bz rfl rfl rfl Ag rfl (C1 SZ (Ah (Ai (Fc rfl (by rfl) ?_))))))))));refine eK ?_;refine Be results85 rfl ?_;exact ⟨AI (V.out f).symm,h⟩
       . by_cases ae:16<v.len
         . have f:v.ok=false:=by simp [VD.ok,hnm,L];omega
           refine C1 Pt (Ah (Ai (Fp rfl (by rfl) (As (Ai (Aj (Ad (C1 Pf (C1 Gi (Ah (Ai ?_)))))))))));refine Ar (Aj (Aj (Ad (C1 V1 (C1 Pa (Ah (Ai (N0 (Ad (C1 V1 (C1 Pa ?_)))))))))));refine Ah (Ai (N0 (Aj (Ad (C1 V1 (C1 Pa (Ah (Ai (OX (Aj (Ad ?_)))))))))));refine C1 Pf (C1 Gi (C1 V3 (C1 Mv (Bh rfl rfl rfl Ag (C1 Pf (Bh rfl rfl rfl Ag (C1 Gi (Bh rfl rfl rfl Ag ?_))))))));refine eK ?_;refine Be results85 rfl ?_;exact ⟨AI (V.out f).symm,h⟩
         . have f:v.ok=true:=by simp [VD.ok,hnm,L];omega
           refine C1 Pt (Ah (Ai (Fp rfl (by rfl) (As (Ai (Aj (Ad (C1 Pf (C1 Gi (Ah (Ai ?_)))))))))));refine Ar (Aj (Aj (Ad (C1 V1 (C1 Pa (Ah (Ai (N0 (Ad (C1 V1 (C1 Pa ?_)))))))))));refine Ah (Ai (N0 (Aj (Ad (C1 V1 (C1 Pa (Ah (Ai (OX (Aj (Ad ?_)))))))))));refine C1 Pf (C1 Gi (C1 V3 (C1 Mv (Bh rfl rfl rfl Ag (C1 Pf (Bh rfl rfl rfl Ag (C1 Gi (Bh rfl rfl rfl Ag (C1 V5 (C1 S0 (Ah ?_)))))))))));refine Ai (N0 (As (Ae (Ae (Ai (Ad (C1 V7 (C1 Mv (Ah ?_)))))))));refine Aw (j+1) sB ⟨h,Ab,fun i M X=>?_⟩ Ab;by_cases e:i=j
           . subst e;exact HE.out▸f
           . exact Y.out i M Ab
     . have f:v.ok=false:=by simp [VD.ok,hnm,ab,L,ac]
       refine C1 Pt (Ah (Ai (Fp rfl (by rfl) ?_)));refine eK ?_;refine Be results85 rfl ?_;exact ⟨AI (V.out f).symm,h⟩
 . refine eK ?_;refine Be results85 rfl ?_;exact ⟨AI (Ru (fun i M=>Y.out i M Ab)).symm,x1⟩
mutual
def Kj : ∀(t:Nd) (d m:Int),0<=m->0<=(t.lim d m).2/\(t.lim d m).2<=m
 | .mk _ _ s l,d,m,hm=>by
  simp only [Nd.lim];split
  . exact ⟨hm,Int.le_refl _⟩
  . have:=Nw l (d-1) (m-1) Ab;omega
def Nw : ∀(l:List Nd) (d m:Int),0<=m->0<=(Cq l d m).2/\(Cq l d m).2<=m
 | [],d,m,hm=>by simp only [Cq];omega
 | t::r,d,m,hm=>by
  have h1:=Kj t d m hm;simp only [Cq];split
  . have:=Nw r d (t.lim d m).2 h1.1;omega
  . omega
end
def Qa (l:List Nd) (j:Nat) (h:j<l.length) (d m:Int):Cq (l.drop j) d m=if (l[j].lim d m).1 then Cq (l.drop (j+1)) d (l[j].lim d m).2 else (false,(l[j].lim d m).2):=by
 rw [cW h,Cq]
def TM (N:Nat) : ∀(t:Nd) (S:nP) (a:oA) (c:Nat) (d m:Int) (E:Nat) (w:wD),t.size<N->t.wf->0<=d->d<=1000000->0<=m->m<=1000000->t.sits S w a -> ¬S E->Blk w E [.int .i64 m] ->
 Calls prog 128 #[t.val a c,.int .i64 d,.pointer (some ⟨E,0,none⟩)] w fun e w'=>e = .returned (.bool (t.lim d m).1)/\Blk w' E [.int .i64 (t.lim d m).2]/\Fr (· = E) w w':=by
 induction N with
 | zero=>intro t S a c d m E w h;omega
 | succ N ih=>
  intro t S a c d m E w hN aa aq ar au av hs hS Z;have IH:=bA ih;clear ih;obtain ⟨k,n,s,l⟩:=t;simp only [Nd.wf,dL] at aa hN;simp only [dW,dM,dU,dO,dN,Nd.lim];simp only [dY] at hs;obtain ⟨-,-,-,-,-,aw,ah⟩:=aa;have ap:=Z.lt;by_cases O:d=0\/m=0
  . rw [AU O];refine Af func128 ntmps128 rfl rfl ?_;refine eK ?_;refine IV rfl rfl rfl ?_;intro b1 w1 f;have h1:=f.blk;have x1:=f.ext;have V:=Z.ext x1;by_cases hd:d=0
    . refine C1 Pa (Ah (Ai (Aj (Aj (Ad (C1 Mv (C1 V1 (C1 Mv (Bz rfl rfl rfl Ag rfl (Bz rfl rfl rfl Ag rfl (Bz rfl rfl rfl Ag rfl ?_)))))))))));refine Bz rfl rfl rfl Ag rfl (C1 SZ (Ah (Ai (Fc rfl (by rfl) ?_))));refine eK ?_;refine Be results128 rfl ?_;exact ⟨rfl,V,.of_ext x1⟩
    . have hm:m=0:=by omega
      refine C1 Pa (Ah (Ai (Aj (Aj (Ad (C1 Mv (C1 V1 (C1 Mv (Bh rfl rfl rfl Ag (C1 Mv (Bh rfl rfl rfl Ag ?_)))))))))));refine C1 Pn (Bh rfl rfl rfl Ag (C1 Gi (Bh rfl rfl rfl Ag ?_)));refine eK ?_;refine Be results128 rfl ?_;exact ⟨rfl,V,.of_ext x1⟩
  . rw [AE O];have hd:d≠0:=fun e=>O (bC e)
    have hm:m≠0:=fun e=>O (bF e)
    clear O;refine Af func128 ntmps128 rfl rfl ?_;refine eK ?_;refine IV rfl rfl rfl ?_;intro b1 w1 f;have h1:=f.blk;have x1:=f.ext;have p1:=f.pos;have V:=Z.ext x1;have ai:=hs.ext x1;refine C1 Pa (Ah (Ai (Aj (Aj (Ad (C1 Mv (C1 V1 (C1 Mv (Bh rfl rfl rfl Ag (C1 Mv (Bh rfl rfl rfl Ag ?_)))))))))));refine C1 Pn (Bh rfl rfl rfl Ag (C1 Gi (Bh rfl rfl rfl Ag (C1 V1 (C1 S0 (Ah (Ai (N0 (As (Ai (Aj ?_)))))))))));refine Ad (C1 Mv (C1 Pn (C1 Gi (A0 (by exact Cv rfl rfl (bT _ Ab)) rfl (C1 Pn (I9 Ac rfl rfl rfl rfl rfl rfl (V) rfl ?_))))));intro w2 F;have aj:Blk w2 E [.int .i64 (m-1)]:=F.blk;have h2:=h1.put F Ab;have ab:rowSits S w2 l a:=ai.fr F.fr (fun b Z e=>hS (e▸Z));have f2:Fr (· = E) w w2:=(Fr.of_ext x1).trans F.fr;have ax:w2.heap.size=b1+1:=by rw [F.size,f.size]
    clear F f;have ak:=bA ab;clear ab;refine eK ?_;refine AJ (ι:=Nat) (fun x=>[(25,.int .i64 x),(24,.int .i64 l.length),(23,.slice a l.length c),(2,.pointer (some ⟨E,0,none⟩)),(1,.int .i64 d)]) (fun x w'=>Fr (· = E) w2 w'/\x<=l.length /\ ∃U,Blk w' E [.int .i64 U]/\0<=U/\U<=1000000/\Cq l (d-1) (m-1)=Cq (l.drop x) (d-1) U) (fun x=>l.length-x) 0 sB ⟨eG _ _,bI _,m-1,aj,Ab,Ab,rfl⟩ ?_;rintro j w3 ⟨f3,hj,U,ac,X,ad,ae⟩;have HR:=bA ae;clear ae;by_cases L:j<l.length
    . have al:rowSits S w3 l a:=ak.out.fr f3 (fun b Z e=>hS (e▸Z));obtain ⟨kb,ko,rfl,ay,Y⟩:=Ba al (by intro e;subst e;simp at L);obtain ⟨xa,xc,rx,sx⟩:=Y j l[j] (aY L);have am:=BJ ah l[j] (bD L);have az:=Dz (bD L);have HD:=bA (Qa l j L (d-1) U);clear Y;generalize l[j]=x at *;have an:=Kj x (d-1) U X;refine eK ?_;refine Gj CM rfl rfl ?_;intro b4 w4 M;refine It Ac rfl rfl rfl rfl rfl rfl (M) rfl ?_;clear M w4;intro w4 M;have h4:=M.blk;have x4:=M.ext;have ao:=ac.ext x4;refine Ah (Ai (Aj (Ad ?_)));refine A0 (by exact A6 Ac rfl rfl rfl (by exact fun wz hz=>by (try subst hz);exact (eC Ag)) (by rfl)) rfl ?_;refine C1 Mv (A0 (by exact Cv rfl rfl (bT _ Ab)) rfl (C1 Mv (cC rfl (IH.out x S xa xc (d-1) U E _ Ab am Ab Ab X ad (sx.ext x4) hS ao) ?_)));rintro _ w5 ⟨⟨⟩,af,f5⟩;have ag:Fr (· = E) w2 w5:=f3.trans ((Fr.of_ext x4).trans f5);cases O:(x.lim (d-1) U).1
      . try rw [O]
        refine C1 Pt (Ah (Ai (Fc rfl (by rfl) ?_)));refine eK ?_;refine Be results128 rfl ?_;rw [HR.out,HD.out,O];exact ⟨rfl,af,f2.trans ag⟩
      . try rw [O]
        refine C1 Pt (Ah (Ai (Fp rfl (by rfl) (As (Ae (Ai (Ad (C1 V7 (C1 Mv (Ah ?_))))))))));refine Aw (j+1) sB ⟨ag,Ab,(x.lim (d-1) U).2,af,an.1,Ab,?_⟩ Ab;rw [HR.out,HD.out,O];rfl
    . refine eK ?_;refine Be results128 rfl ?_;have:l.drop j=[]:=List.drop_eq_nil_of_le Ab;rw [HR.out,this];exact ⟨rfl,ac,f2.trans f3⟩
def Ext.fr1 {a b c:wD} {f:Nat} (h:Ext a b) (k:Fr (· = f) b c) (F:a.heap.size<=f):Ext a c:=
 ⟨k.os.trans (Below.os h),k.tape.trans (Below.tape h),k.output.trans (Below.output h),cD h.size k.size,fun i E=>(k.block i (Nat.lt_of_lt_of_le E h.size) Ab).trans (h.block E)⟩
def Vo {S:nP} {w:wD} (t:Nd) (a:oA) (h:t.sits S w a):t.sits (fun b=>S b/\b<w.heap.size) w a:=by
 have key : ∀N:Nat,(∀(l:List Nd) (a:oA),Am l<N->rowSits S w l a->rowSits (fun b=>S b/\b<w.heap.size) w l a):=by
  intro N
  induction N with
  | zero=>intro l a h;omega
  | succ N f=>
   intro l a E h;cases l with
   | nil=>simp [rowSits]
   | cons x r=>
    simp only [rowSits] at h ⊢;obtain ⟨b,o,F,c,rfl,O,L,h1,U,V,M,X⟩:=h;have Y:=Cb L;simp only [Am] at E;have Z:=Nd.size_pos x;obtain ⟨k,n,s,l⟩:=x;simp only [dL] at E;refine ⟨b,o,F,c,rfl,⟨O,Y⟩,L,h1,U,V,?_,f r _ Ab X⟩;simp only [dY] at M ⊢;exact f l F Ab M
 obtain ⟨k,n,s,l⟩:=t;simp only [dY] at h ⊢;exact key (Am l+1) l a Ab h
def Qb (t:Nd) (S:nP) (a:oA) (c:Nat) (w:wD) (F:t.wf) (U:t.sits S w a) :
 Calls prog 86 #[t.val a c] w fun e w'=>e = .returned (.bool (Eb t))/\Ext w w':=by
 have L:=Vo t a U;refine Af func86 ntmps86 rfl rfl ?_;refine eK ?_;refine IV rfl rfl rfl ?_;intro b1 w1 E;have h1:=E.blk;have x1:=E.ext;have p1:=E.pos;have z1:=E.size;refine eK ?_;refine Gj CM rfl rfl ?_;intro X M f;refine It Ac rfl rfl rfl rfl rfl rfl (f) rfl ?_;clear f M;intro M f;have Y:=f.ext;have Z:=h1.ext Y;have aa:=f.pos;refine Ah (Ai (Aj (Ad ?_)));refine A0 (by exact A6 Ac rfl rfl rfl (by exact fun wz N=>by (try subst N);exact (eC Ag)) (by rfl)) rfl ?_;refine cC rfl (TM (t.size+1) t _ a c 80 2000 X _ Ab F Ab Ab Ab Ab (L.ext (by refine dK ?_ Ag;assumption)) (fun h=>by omega) f.blk) ?_;rintro _ w3 ⟨⟨⟩,-,V⟩;have O:Ext w w3:=Ext.fr1 (b:=M) (by refine dK ?_ Ag;assumption) V Ab;have h3:=Z.fr V Ab;cases hq:(t.lim 80 2000).1
 . try rw [hq]
   refine eK ?_;refine Be results86 rfl ?_;exact ⟨AI (by simp [Eb,hq]),O⟩
 . try rw [hq]
   refine C1 Mv (A2 rfl rfl rfl (rfl) ?_);refine A0 (by exact A6 Ac rfl rfl rfl (by exact fun wz N=>by (try subst N);exact (eC Ag)) (by rfl)) rfl ?_;refine A2 rfl rfl rfl (rfl) (cC rfl (Tk S t F a c _ (U.ext O)) ?_);rintro _ w4 ⟨⟨⟩,x4⟩;refine eK ?_;refine Be results86 rfl ?_;exact ⟨AI (by simp [Eb,hq]),O.trans x4⟩
structure PD.wf (p:PD):Prop where
 name:p.name.length<=9223372036854775807
 len:p.params.length<=9223372036854775807
 params : ∀v∈p.params,v.wf
 body:p.body.wf
structure PG.wf (g:PG):Prop where
 nv:g.vars.length<=9223372036854775807
 np:g.procs.length<=9223372036854775807
 vars : ∀v∈g.vars,v.wf
 procs : ∀p∈g.procs,p.wf
 main:g.main.wf
def Qc {l:List PD} {j:Nat} (h:j<l.length) (f:l[j].ok=false):l.all PD.ok=false:=by
 rw [List.all_eq_false];exact ⟨l[j],bD h,by simp [f]⟩
def Rv {l:List PD} (h : ∀j (F:j<l.length),l[j].ok=true):l.all PD.ok=true:=by
 rw [cX];intro x f;obtain ⟨i,E,rfl⟩:=List.mem_iff_getElem.1 f;exact h i E
def Sw (g:PG) (S:nP) (va:oA) (vc:Nat) (Y:oA) (pc:Nat) (ma:oA) (mc:Nat) (w:wD) (f:g.wf) (hs:g.sits S w va Y ma) :
 Calls prog 48 #[.agg (g.cells va vc Y pc ma mc).toArray] w fun e w'=>e = .returned (.bool g.ok)/\Ext w w':=by
 have aa:=f.nv;have ag:=f.np;refine Af func48 ntmps48 rfl rfl ?_;refine eK ?_;refine IV rfl rfl rfl ?_;intro b1 w1 V;have h1:=V.blk;have Z:=V.ext;by_cases c1:32<g.vars.length
 . refine C1 Pa (Ah (Ai (Aj (Aj (Ad (C1 Pg (C1 Gi (C1 Pz (C1 V5 (C1 Mv (Bz rfl rfl rfl Ab rfl ?_)))))))))));refine Bz rfl rfl rfl Ab rfl (Bz rfl rfl rfl Ab rfl (Bz rfl rfl rfl Ab rfl (C1 Uy (C1 Mv (AP rfl rfl rfl (rfl) rfl (AP rfl rfl rfl (rfl) rfl (AP rfl rfl rfl (rfl) rfl (AP rfl rfl rfl (rfl) rfl (C1 (Bc rfl rfl rfl) (Ah (Ai ?_)))))))))));refine Fc rfl (by rfl) ?_;refine eK ?_;refine Be results48 rfl ?_;exact ⟨AI (by simp [PG.ok];omega),Z⟩
 by_cases c2:64<g.procs.length
 . refine C1 Pa (Ah (Ai (Aj (Aj (Ad (C1 Pg (C1 Gi (C1 Pz (C1 V5 (C1 Mv (Bh rfl rfl rfl Ab ?_)))))))))));refine C1 Pf (Bh rfl rfl rfl Ab (C1 Gi (Bh rfl rfl rfl Ab (C1 Pz (Bh rfl rfl rfl Ab (C1 V5 (C1 OQ (C1 Mv (Bz rfl rfl rfl Ab rfl (Bz rfl rfl rfl Ab rfl (Bz rfl rfl rfl Ab rfl ?_)))))))))));refine Bz rfl rfl rfl Ab rfl (C1 Uy (Ah (Ai (Fc rfl (by rfl) ?_))));refine eK ?_;refine Be results48 rfl ?_;exact ⟨AI (by simp [PG.ok];omega),Z⟩
 refine C1 Pa (Ah (Ai (Aj (Aj (Ad (C1 Pg (C1 Gi (C1 Pz (C1 V5 (C1 Mv (Bh rfl rfl rfl Ab ?_)))))))))));refine C1 Pf (Bh rfl rfl rfl Ab (C1 Gi (Bh rfl rfl rfl Ab (C1 Pz (Bh rfl rfl rfl Ab (C1 V5 (C1 OQ (C1 Mv (Bh rfl rfl rfl Ab (C1 Pg (Bh rfl rfl rfl Ab ?_)))))))))));refine C1 Gi (Bh rfl rfl rfl Ab (cC rfl (L7 g.vars S va vc _ aa f.vars (hs.vars.ext Z)) ?_));rintro _ w2 ⟨⟨⟩,x2⟩;cases hq:C6 g.vars
 . try rw [hq]
   refine Bh rfl rfl rfl Ab (C1 Pt (C1 OQ (Ah (Ai (Fc rfl (by rfl) ?_)))));refine eK ?_;refine Be results48 rfl ?_;exact ⟨AI (by simp [PG.ok,hq]),Z.trans x2⟩
 try rw [hq]
 have h2:=h1.ext x2;refine Bh rfl rfl rfl Ab (C1 Pt (C1 OQ (Ah (Ai (Fp rfl (by rfl) ?_)))));refine eK ?_;refine AJ (ι:=Nat) (fun j=>[(24,.int .i64 j),(23,.int .i64 g.procs.length),(22,.slice Y g.procs.length pc),(1,.pointer (some ⟨b1,0,none⟩))]) (fun j w'=>Ext w2 w'/\j<=g.procs.length /\ ∀i (hi:i<g.procs.length),i<j->g.procs[i].ok=true) (fun j=>g.procs.length-j) 0 sB ⟨dI _,Ab,Ab⟩ ?_;rintro j w3 ⟨x3,hj,F⟩;have HA:=bA F;clear F;have E:Ext w w3:=(by refine dK ?_ Ag;refine dK ?_ Ag;assumption)
 by_cases O:j<g.procs.length
 . have ab:PDs S w3 g.procs Y:=hs.procs.ext E;obtain ⟨kb,ko,rfl,-,L⟩:=Arr.get ab Ab;obtain ⟨qa,qc,ba,bc,rx,sv,sb⟩:=L j g.procs[j] (aY O);have wf:=f.procs g.procs[j] (bD O);have ac:=wf.name;have ad:=wf.len;have HN:=bA (Qc O);clear L;generalize hv:g.procs[j]=p at *;have HE:=bA hv;clear hv;refine eK ?_;refine Gj CM rfl rfl ?_;intro b4 w4 h;refine It Ac rfl rfl rfl rfl rfl rfl (h) rfl ?_;clear h w4;intro w4 h;have h4:=h.blk;have x4:=h.ext;refine eK ?_;refine cC rfl (G0 p.name _ ac) ?_;rintro _ w5 ⟨⟨⟩,x5⟩;have U:Ext w w5:=E.trans (x4.trans x5);have M:Ext w3 w5:=x4.trans x5;have h5:=h4.ext x5;cases hnm:A9 p.name
   . try rw [hnm]
     refine C1 Pt (C1 Mv (AP rfl rfl rfl (rfl) rfl (AP rfl rfl rfl (rfl) rfl (AP rfl rfl rfl (rfl) rfl (AP rfl rfl rfl (rfl) rfl (C1 (Bc rfl rfl rfl) (C1 Mv (AP rfl rfl rfl (rfl) rfl (AP rfl rfl rfl (rfl) rfl (AP rfl rfl rfl (rfl) rfl (AP rfl rfl rfl (rfl) rfl ?_)))))))))));refine C1 (Bc rfl rfl rfl) (C1 Mv (AP rfl rfl rfl (rfl) rfl (AP rfl rfl rfl (rfl) rfl (AP rfl rfl rfl (rfl) rfl (AP rfl rfl rfl (rfl) rfl (C1 (Bc rfl rfl rfl) (Ah (Ai (Fc rfl (by rfl) ?_)))))))));refine eK ?_;refine Be results48 rfl ?_;exact ⟨AI (by simp [PG.ok,HN.out (by simp [PD.ok,hnm])]),U⟩
   try rw [hnm]
   by_cases c3:8<p.params.length
   . refine C1 Pt (C1 Mv (A2 rfl rfl rfl (rfl) (C1 Pf (A2 rfl rfl rfl (rfl) (C1 Gi (A2 rfl rfl rfl (rfl) (C1 Pz (A2 rfl rfl rfl (rfl) (C1 V5 (C1 (By rfl rfl rfl) (C1 Mv ?_)))))))))));refine Bz rfl rfl rfl Ab rfl (Bz rfl rfl rfl Ab rfl (Bz rfl rfl rfl Ab rfl (Bz rfl rfl rfl Ab rfl (C1 Uy (C1 Mv (AP rfl rfl rfl (rfl) rfl (AP rfl rfl rfl (rfl) rfl (AP rfl rfl rfl (rfl) rfl (AP rfl rfl rfl (rfl) rfl (C1 (Bc rfl rfl rfl) (Ah ?_)))))))))));refine Ai (Fc rfl (by rfl) ?_);refine eK ?_;refine Be results48 rfl ?_;exact ⟨AI (by simp [PG.ok,HN.out (by simp [PD.ok,hnm];omega)]),U⟩
   refine C1 Pt (C1 Mv (A2 rfl rfl rfl (rfl) (C1 Pf (A2 rfl rfl rfl (rfl) (C1 Gi (A2 rfl rfl rfl (rfl) (C1 Pz (A2 rfl rfl rfl (rfl) (C1 V5 (C1 (By rfl rfl rfl) (C1 Mv ?_)))))))))));refine Bh rfl rfl rfl Ab (C1 Pf (Bh rfl rfl rfl Ab (C1 Gi (Bh rfl rfl rfl Ab (cC rfl (L7 p.params S qa qc _ ad wf.params (sv.ext M)) ?_)))));rintro _ w6 ⟨⟨⟩,x6⟩;have X:Ext w w6:=U.trans x6;have N:Ext w3 w6:=M.trans x6;have h6:=h5.ext x6;cases hq2:C6 p.params
   . try rw [hq2]
     refine Bh rfl rfl rfl Ab (C1 Pt (C1 OQ (C1 Mv (AP rfl rfl rfl (rfl) rfl (AP rfl rfl rfl (rfl) rfl (AP rfl rfl rfl (rfl) rfl (AP rfl rfl rfl (rfl) rfl (C1 (Bc rfl rfl rfl) (Ah (Ai (Fc rfl (by rfl) ?_)))))))))));refine eK ?_;refine Be results48 rfl ?_;exact ⟨AI (by simp [PG.ok,HN.out (by simp [PD.ok,hq2])]),X⟩
   try rw [hq2]
   refine Bh rfl rfl rfl Ab (C1 Pt (C1 OQ (C1 Mv (A2 rfl rfl rfl (rfl) (C1 Pf (A2 rfl rfl rfl (rfl) ?_))))));refine A0 (by exact C5 Ac rfl rfl rfl (by exact fun wz hz=>by (try subst hz);assumption) (by rfl)) rfl ?_;refine A2 rfl rfl rfl (rfl) (cC rfl (Qb p.body S ba bc _ wf.body (sb.ext N)) ?_);rintro _ w7 ⟨⟨⟩,x7⟩;have ae:Ext w w7:=X.trans x7;cases hq3:Eb p.body
   . try rw [hq3]
     refine A2 rfl rfl rfl (rfl) (C1 Pt (C1 (By rfl rfl rfl) (Ah (Ai (Fc rfl (by rfl) ?_)))));refine eK ?_;refine Be results48 rfl ?_;exact ⟨AI (by simp [PG.ok,HN.out (by simp [PD.ok,hq3])]),ae⟩
   try rw [hq3]
   have af:p.ok=true:=by simp [PD.ok,hnm,hq2,hq3];omega
   refine A2 rfl rfl rfl (rfl) (C1 Pt (C1 (By rfl rfl rfl) (Ah (Ai (Fp rfl (by rfl) (As (Ae (Ai (Ad (C1 V7 (C1 Mv ?_)))))))))));refine Ah ?_;refine Aw (j+1) sB ⟨x3.trans (N.trans x7),Ab,fun i hi ah=>?_⟩ Ab;by_cases e:i=j
   . subst e;exact HE.out▸af
   . exact HA.out i hi Ab
 . have h3:=h2.ext x3;refine Aj (Ad (C1 V3 (Ah (Ai (Aj (C9 (CB (AG (AG (A8 (Ai ?_)))))))))));refine Aj (Ad (C1 Pf ?_));refine A0 (by exact C5 Ac rfl rfl rfl (by exact fun wz hz=>by (try subst hz);assumption) (by rfl)) rfl ?_;refine cC rfl (Qb g.main S ma mc _ f.main (hs.main.ext E)) ?_;rintro _ w4 ⟨⟨⟩,x4⟩;refine eK ?_;refine Be results48 rfl ?_;refine ⟨AI ?_,E.trans x4⟩;have:=Rv (fun i hi=>HA.out i hi Ab);simp [PG.ok,hq,this];omega
def JH : ∀l:List Nd,0<=AT l
 | []=>by simp [AT]
 | t::r=>by have:=JH r;simp only [AT];omega
mutual
def Sx : ∀(t:Nd) (d m:Int),t.depth<=d->(t.size:Int)<=m->t.lim d m=(true,m-t.size)
 | .mk _ _ _ l,d,m,hd,hm=>by
  simp only [Nd.depth] at hd;simp only [dL] at hm;have h0:0<=AT l:=JH l;unfold Nd.lim;rw [AE Ab,L8 l (d-1) (m-1) Ab Ab];simp only [dL];congr 1;omega
def L8 : ∀(l:List Nd) (d m:Int),AT l<=d->(Am l:Int)<=m->Cq l d m=(true,m-Am l)
 | [],d,m,_,_=>by simp [Cq,Am]
 | t::r,d,m,hd,hm=>by
  simp only [AT] at hd;simp only [Am] at hm;have h1:=Sx t d m Ab Ab;unfold Cq;rw [h1];simp only [if_true];rw [L8 r d _ Ab Ab];simp only [Am];congr 1;omega
end
mutual
def L9 : ∀(t:Nd) (d m:Int),0<=d->(t.lim d m).1=true->t.depth<=d
 | .mk _ _ s l,d,m,hd,h=>by
  simp only [Nd.lim] at h;split at h
  . simp at h
  . have:=IQ l (d-1) (m-1) Ab h;simp only [Nd.depth];omega
def IQ : ∀(l:List Nd) (d m:Int),0<=d->(Cq l d m).1=true->AT l<=d
 | [],d,m,hd,_=>by simp only [AT];exact hd
 | t::r,d,m,hd,h=>by
  simp only [Cq] at h;split at h
  . rename_i ht;have h1:=L9 t d m hd ht;have h2:=IQ r d _ hd h;simp only [AT];omega
  . simp at h
end
mutual
def Nx : ∀(t:Nd) (d m:Int),0<=m->(t.lim d m).1=true->(t.size:Int)+(t.lim d m).2<=m
 | .mk _ _ s l,d,m,hm,h=>by
  simp only [Nd.lim] at h ⊢;split at h
  . simp at h
  . rename_i hn;rw [AE hn];have:=JI l (d-1) (m-1) Ab h;simp only [dL];omega
def JI : ∀(l:List Nd) (d m:Int),0<=m->(Cq l d m).1=true->(Am l:Int)+(Cq l d m).2<=m
 | [],d,m,hm,_=>by simp only [Cq,Am];omega
 | t::r,d,m,hm,h=>by
  simp only [Cq] at h ⊢;split at h
  . rename_i ht;rw [AU ht];have h1:=Nx t d m hm ht;have h0:=Kj t d m hm;have h2:=JI r d (t.lim d m).2 h0.1 h;simp only [Am];omega
  . simp at h
end
def body_iff {t:Nd}:Eb t=true↔t.isBlock=true/\t.depth<=80/\t.size<=2000:=by
 constructor
 . intro h;simp only [Eb,bB] at h;have h1:=Nx t 80 2000 Ab h.1;have f:=Kj t 80 2000 Ab;exact ⟨h.2,L9 t 80 2000 Ab h.1,Ab⟩
 . rintro ⟨h1,f,E⟩;simp only [Eb,bB];refine ⟨?_,h1⟩;rw [Sx t 80 2000 f Ab]
def Ic {g:PG} (h:g.ok=true):g.vars.length<=32/\g.procs.length<=64/\C6 g.vars=true/\(∀p∈g.procs,p.ok=true)/\Eb g.main=true:=by
 simp only [PG.ok,bB,decide_eq_true_eq] at h;obtain ⟨⟨⟨⟨h1,f⟩,E⟩,F⟩,L⟩:=h;exact ⟨h1,f,E,cX.1 F,L⟩
def FC {p:PD} (h:p.ok=true):A9 p.name=true/\p.params.length<=8/\C6 p.params=true/\Eb p.body=true:=by
 simp only [PD.ok,bB,decide_eq_true_eq] at h;obtain ⟨⟨⟨h1,f⟩,E⟩,F⟩:=h;exact ⟨h1,f,E,F⟩
def PD.map (f:Nd->Nd) (p:PD):PD:=⟨p.name,p.params,f p.body⟩
def PG.inv (f:Nd->Nd) (q:Bool) (g:PG):PG:=⟨g.vars,g.procs.map (PD.map f),g.main.inv q⟩
def TN {f:Nd->Nd} (q:Bool) {g:PG} (h:g.wf) (E:g.ok=true) (L : ∀p∈g.procs,(f p.body).wf):(g.inv f q).wf:=by
 obtain ⟨h1,O,U,V,M⟩:=Ic E;refine ⟨h.nv,by simpa [PG.inv] using h.np,h.vars,fun p N=>?_,(Yv q (g.main.size+1) g.main Ab (bF (body_iff.1 M).1)).wf h.main⟩;obtain ⟨x,F,rfl⟩:=List.mem_map.1 N;have:=h.procs x F;exact ⟨this.name,this.len,this.params,L x F⟩
def Vp {g:PG} (h:g.ok=true):g.main.isBlock=true:=(body_iff.1 (Ic h).2.2.2.2).1
attribute [local irreducible] Go.Calls
def JJ {g:PG} {b:Bool} (f:g.wf) (h:g.ok=b) (S:nP) (E:oA) (M:Nat) (F:oA) (N:Nat) (L:oA) (O:Nat) (w:wD) (U:g.sits S w E F L) :
 Calls prog 48 #[.agg (g.cells E M F N L O).toArray] w fun e w'=>e = .returned (.bool b)/\Ext w w':=by
 have:=Sw g S E M F N L O w f U;rw [h] at this;exact this
def Vq:PG:=⟨[],[],BI⟩
def PG.sits.ltA {S:nP} {w:wD} {g:PG} {f E F:oA} (h:g.sits S w f E F):g.sits (· < w.heap.size) w f E F:=⟨h.vars.lt2.wide fun _ h=>h.2,h.procs.ltA,Hu _ _ h.main⟩
def Rw (f:Nd->Nd) (l:List PD) (j:Nat) (h:j<l.length):(l.take (j+1)).map (PD.map f)=(l.take j).map (PD.map f)++[(l[j]).map f]:=by
 rw [bE h,List.map_append];rfl
def KS (u:PG) (k:Int) (w:wD):Ending->wD->Prop:=fun e w'=> ∃va vc pa pc ma mc,e = .returned (.tuple #[.agg (u.cells va vc pa pc ma mc).toArray,.int .i64 k])/\u.sits (fun b=>w.heap.size<=b/\b<w'.heap.size) w' va pa ma/\PDsC (fun b=>w.heap.size<=b/\b<w'.heap.size) w' u.procs pa/\u.vars.length<=vc/\Ext w w'
def PDsC.lt2 {S:nP} {w:wD} {l:List PD} {a:oA} (h:PDsC S w l a):PDsC (fun b=>S b/\b<w.heap.size) w l a:=by
 rcases h with h|⟨b,o,h1,F,E⟩
 . exact bC h
 . cases l with
   | nil=>exact bC rfl
   | cons v r=>
    obtain ⟨_,_,_,_,f,-,-⟩:=E 0 v rfl;refine bF ⟨b,o,h1,⟨F,Cb (Row.at0 f rfl)⟩,fun i x L=>?_⟩;obtain ⟨M,N,O,U,f,V,X,Y⟩:=E i x L;exact ⟨M,N,O,U,f,V.lt2,Gs _ _ X,Y⟩
def Vr {f:Nd->Nd} {q:Bool} {g:PG} {w w':wD} {E F L:oA} {N O U M e:Nat} {xs:List PD} {V S2:nP} (Y:xs=g.procs.map (PD.map f)) (Z:VDs V w' g.vars E) (hc:g.vars.length<=N) (ho:OwnL Fh w' M e (.slice F xs.length O) xs) (hm:(g.main.inv q).sits S2 w' L) (X:Ext w w') (k1 : ∀b,V b->w.heap.size<=b) (k2 : ∀b,S2 b->w.heap.size<=b) (kM:w.heap.size<=M) :
 KS (g.inv f q) 0 w (.returned (.tuple #[.agg #[.slice E g.vars.length N,.slice F xs.length O,.int .u8 (g.main.inv q).kind,.int .i64 (g.main.inv q).num,str (g.main.inv q).name,.slice L (g.main.inv q).kids.length U],.int .i64 0])) w':=by
 subst Y;have h1:=PDsC.wide (PDsC.lt2 (ho.pdsC (S:=fun b=>M<=b) (fun b hb=>hb))) (S':=fun b=>w.heap.size<=b/\b<w'.heap.size) fun b h=>⟨Ab,h.2⟩
 exact ⟨E,N,F,O,L,U,rfl,⟨Z.lt2.wide fun b h=>⟨k1 b h.1,h.2⟩,h1.pds,dR (Gs _ _ hm) fun b h=>⟨k2 b h.1,h.2⟩⟩,h1,hc,X⟩
def Rx (q:Bool) (al:Nat) (f:Nd->Nd) (b3:Fl prog al=true) (g:PG) (a5:g.wf) (a6:g.ok=true) (hf:g.few) (hm:g.main.isBlock=true)
 (HB : ∀p∈g.procs,∀(S:nP) (a:oA) (c:Nat) (w:wD),p.body.sits S w a->Calls prog al #[p.body.val a c] w (CopyR (f p.body) w))
 (S:nP) (va:oA) (vc:Nat) (pa:oA) (pc:Nat) (ma:oA) (mc:Nat) (w:wD) (hs:g.sits S w va pa ma) :
 Calls prog 51 #[.agg (g.cells va vc pa pc ma mc).toArray,.func (.func al) #[] #[],.bool q] w (KS (g.inv f q) 0 w):=by
 have X:=dI w;obtain ⟨nv,np,b4,a7⟩:=hf;have HV:=bA (JJ a5 a6);have HI:=bA (Vk q g.main b4 (bF hm));have HC:=bA (Nj g.vars Ab);have HP:=bA HB;have HQ:=bA a7;clear a5 a6 hm HB a7;have hs:=hs.ltA;refine Af func51 ntmps51 rfl rfl ?_;refine cS (eB [_,_,_,_,_,_] ?_);intro b1 w2 h4 x5 p6 z7;revert X hs;refine eE x5 ?_;intro X hs;refine eA [_,_,_,_,_,_] ?_;intro b8 w9 F b5 ef eg;revert h4 X hs;refine eE b5 ?_;intro h4 X hs;refine eK ?_;refine cC rfl (HV.out _ _ _ _ _ _ _ _ Ag) ?_;rintro _ a8 ⟨⟨⟩,b6⟩;revert F h4 X hs;refine eY b6 ?_;intro eh F h4 X hs;refine C1 Pt (cT (Da rfl (As (Ai ?_))));refine Fu (ι:=Nat×oA×Nat×oA×Nat) (fun x=>[(1,.func (.func al) #[] #[]),(3,.pointer (some ⟨b1,0,none⟩)),(6,.pointer (some ⟨b8,0,none⟩)),(8,.pointer (some ⟨x.1,0,none⟩))])
  (fun x w'=>Blk w' x.1 [.slice x.2.1 g.vars.length x.2.2.1,.slice none 0 0,.int .u8 (g.main.inv q).kind,.int .i64 (g.main.inv q).num,str (g.main.inv q).name,.slice x.2.2.2.1 (g.main.inv q).kids.length x.2.2.2.2]/\VDs (fun b=>b8<b/\b≠x.1/\b<w'.heap.size) w' g.vars x.2.1/\(g.main.inv q).sits (fun b=>b8<b/\b≠x.1/\b<w'.heap.size) w' x.2.2.2.1/\b8<x.1/\x.1<w'.heap.size/\g.vars.length<=x.2.2.1 /\
   Blk w' b1 [.slice va g.vars.length vc,.slice pa g.procs.length pc,.int .u8 g.main.kind,.int .i64 g.main.num,str g.main.name,.slice ma g.main.kids.length mc]/\Blk w' b8 [.slice none 0 0,.slice none 0 0,.int .u8 0,.int .i64 0,str [],.slice none 0 0]/\g.sits (· < w.heap.size) w' va pa ma/\Ext w w') ?_ ?_
 . clear HP HQ HV;have hv:=hs.vars;have M:=hs.main
   focus
    refine AC (fun wz=>Ext a8 wz) 9 (.pure 0 (.pure 1 (.pure 3 (.pure 4 (.pure 5 (.fork 2 (.fork 6 (.pure 7 (.fork 8 .tail .none)) (.fork 8 (.fork 6 (.pure 7 .tail) .none) .none)) (.fork 8 (.fork 2 (.fork 6 (.pure 7 .tail) .none) .none) .none))))))) mixed Bl (Aa An) ?_;intro b7 a9 _;have E:(fun wz=>Ext a8 wz) b7:=a9;simp only at E;have b9:=F;have ba:=h4;have ck:=hs;have cl:=hv;have cb:=M;revert F h4 X hs hv M;refine eY a9 ?_;intro ei F h4 X hs hv M;refine ⟨E,?_⟩;refine eT ?_;refine Tq rfl (xL [_,_,_,_] (fun wz hz=>(dV ba hz))) (Tq rfl Mv ?_);refine A1 rfl (Bb Bl rfl (HC.out _ _ _ _ Ag) (fun _ _ h=>h.ret)) rfl ?_ aFh ?kra5;rintro _ cm ⟨ej,⟨ek,⟨⟨⟩,⟨aa,⟨cc,cn⟩⟩⟩⟩⟩;revert E F h4 X hs hv M;refine eY cc ?_;intro co E F h4 X hs hv M;refine ⟨E,?_⟩;refine A1 rfl (Bb Bl rfl (HI.out _ _ _ _ Ag) (fun _ _ h=>h.ret)) rfl ?_ aFh ?kra13;rintro _ cp ⟨cq,⟨cr,⟨⟨⟩,⟨ae,bb⟩⟩⟩⟩;revert aa E F h4 X hs hv M;refine eY bb ?_;intro ct aa E F h4 X hs hv M;refine ⟨E,?_⟩;refine Tq rfl (xB [_,_,_,_,_,_]) ?_;refine A1 rfl (C4 CM rfl) rfl ?_ aFh A7;rintro _ cu ⟨cv,rfl,af⟩;have ar:=af.blk;dsimp only at ar;have bc:=af.ext;have cw:=af.pos;have cx:=af.size;revert ae aa E F h4 X hs hv M;refine eE bc ?_;intro ae aa E F h4 X hs hv M;refine ⟨E,?_⟩;refine AF rfl (eS [_,_,_,_,_,_] ar ?_);intro cy cz bd c0;revert ae aa F h4 X hs hv M;refine eF bd ?_;intro ae aa F h4 X hs hv M;refine Ah ?_;rotate_left;refine A1 rfl (C4 CM rfl) rfl ?_ aFh A7;rintro _ c1 ⟨c2,rfl,ag⟩;have ah:=ag.blk;dsimp only at ah;have be:=ag.ext;have c3:=ag.pos;have c4:=ag.size;revert aa E F h4 X hs hv M;refine eE be ?_;intro aa E F h4 X hs hv M;refine ⟨E,?_⟩;refine tC rfl rfl (HI.out _ _ _ _ Ag) ?_;rintro _ c5 ⟨c6,⟨c7,⟨⟨⟩,⟨au,bf⟩⟩⟩⟩;revert ah aa E F h4 X hs hv M;refine eY bf ?_;intro c8 ah aa E F h4 X hs hv M;refine ⟨E,?_⟩;refine Tq rfl (xB [_,_,_,_,_,_]) ?_;refine AF rfl (eS [_,_,_,_,_,_] ah ?_);intro c9 da bg db;revert au aa F h4 X hs hv M;refine eF bg ?_
    intro au aa F h4 X hs hv M;refine Ah ?_;rotate_left;refine A1 rfl (C4 CM rfl) rfl ?_ aFh A7;rintro _ dc ⟨dd,rfl,ai⟩;have ac:=ai.blk;dsimp only at ac;have bh:=ai.ext;have de:=ai.pos;have df:=ai.size;revert E F h4 X hs hv M;refine eE bh ?_;intro E F h4 X hs hv M;refine ⟨E,?_⟩;refine tC rfl rfl (HC.out _ _ _ _ Ag) ?_;rintro _ dg ⟨dh,⟨di,⟨⟨⟩,⟨aj,⟨bi,dk⟩⟩⟩⟩⟩;revert ac E F h4 X hs hv M;refine eY bi ?_;intro dl ac E F h4 X hs hv M;refine ⟨E,?_⟩;refine tC rfl rfl (HI.out _ _ _ _ Ag) ?_;rintro _ dm ⟨dn,⟨dp,⟨⟨⟩,⟨av,bj⟩⟩⟩⟩;revert aj ac E F h4 X hs hv M;refine eY bj ?_;intro dq aj ac E F h4 X hs hv M;refine ⟨E,?_⟩;refine Tq rfl (xB [_,_,_,_,_,_]) ?_;refine AF rfl (eS [_,_,_,_,_,_] ac ?_);intro dr ds bk dt;revert av aj F h4 X hs hv M;refine eF bk ?_;intro av aj F h4 X hs hv M;refine Ah ?_;rotate_left
   . exact BL (_,_,_,_,_) sB ⟨Ag,VDs.wide Ag (fun b h=>⟨Ab,Ab,Ab⟩),dR Ag (fun b h=>⟨Ab,Ab,Ab⟩),Ab,Ab,Ag,Ag,Ag,Ag,Ag⟩
   . exact BL (_,_,_,_,_) sB ⟨Ag,VDs.wide Ag (fun b h=>⟨Ab,Ab,Ab⟩),dR Ag (fun b h=>⟨Ab,Ab,Ab⟩),Ab,Ab,Ag,Ag,Ag,Ag,Ag⟩
   . exact BL (_,_,_,_,_) sB ⟨Ag,VDs.wide Ag (fun b h=>⟨Ab,Ab,Ab⟩),dR Ag (fun b h=>⟨Ab,Ab,Ab⟩),Ab,Ab,Ag,Ag,Ag,Ag,Ag⟩
 . clear h4 F hs X;rintro ⟨bq,bl,cd,bm,ce⟩ w1 ⟨V,O,U,o1,o2,bn,Y,Z,hs,X⟩;simp only at V O U o1 o2 bn;have hp:=hs.procs;have hz:=bJ w1.heap.size;clear hs HV HI HC;refine Aj (cS (C1 Pf (C1 (Pl Y) (C1 Pz (C1 Mv (cT (Ar ?_)))))));refine AJ (ι:=Nat×List PD×oA×Nat) (fun x=>[(1,.func (.func al) #[] #[]),(3,.pointer (some ⟨b1,0,none⟩)),(6,.pointer (some ⟨b8,0,none⟩)),(8,.pointer (some ⟨bq,0,none⟩)),(24,.slice pa g.procs.length pc),(25,.int .i64 g.procs.length),(26,.int .i64 x.1)])
    (fun x w'=>OwnL Fh w' w1.heap.size 90 (.slice x.2.2.1 x.2.1.length x.2.2.2) x.2.1/\x.2.1=(g.procs.take x.1).map (PD.map f)/\x.1<=g.procs.length/\Blk w' bq [.slice bl g.vars.length cd,.slice x.2.2.1 x.2.1.length x.2.2.2,.int .u8 (g.main.inv q).kind,.int .i64 (g.main.inv q).num,str (g.main.inv q).name,.slice bm (g.main.inv q).kids.length ce]/\VDs (fun b=>b8<b/\b≠bq/\b<w1.heap.size) w' g.vars bl/\(g.main.inv q).sits (fun b=>b8<b/\b≠bq/\b<w1.heap.size) w' bm /\
     Blk w' b1 [.slice va g.vars.length vc,.slice pa g.procs.length pc,.int .u8 g.main.kind,.int .i64 g.main.num,str g.main.name,.slice ma g.main.kids.length mc]/\Blk w' b8 [.slice none 0 0,.slice none 0 0,.int .u8 0,.int .i64 0,str [],.slice none 0 0]/\PDs (· < w.heap.size) w' g.procs pa/\Ext w w'/\w1.heap.size<=w'.heap.size)
    (fun x=>g.procs.length-x.1) (0,[],none,0) sB ⟨OwnL.nil,Bd,bI _,V,O,U,Y,Z,hp,X,hz⟩ ?_
   clear V O U Y Z hp X hz;rintro ⟨j,xs,ra,rc⟩ w3 ⟨L,am,hj,V,O,U,Y,Z,hp,X,hz⟩;simp only at L am hj V;have bo : ∀g',(cP ra xs.length rc).ownBlock=some g'->w1.heap.size<=g'/\g'<w3.heap.size:=fun g' h=>⟨L.ge h,L.lt h⟩
   have el:xs.length<=1000000:=by rw [am,List.length_map,cH];omega
   refine CW.sub (m:=[(1,.func (.func al) #[] #[]),(3,.pointer (some ⟨b1,0,none⟩)),(6,.pointer (some ⟨b8,0,none⟩)),(8,.pointer (some ⟨bq,0,none⟩)),(24,.slice pa g.procs.length pc),(25,.int .i64 g.procs.length),(26,.int .i64 (j:Int))]) ?_ sB;by_cases ap:j<g.procs.length
   . obtain ⟨kb,ko,rfl,kS,hk⟩:=Arr.get hp Ab;obtain ⟨xa,xc,ya,yc,rx,vx,sx⟩:=hk j _ (aY ap);have HX:=bA (HP.out _ (bD ap));have em:=HQ.out _ (bD ap);have HC:=bA (Nj g.procs[j].params Ab);have az:xs++[(g.procs[j]).map f]=(g.procs.take (j+1)).map (PD.map f):=by rw [am,Rw f _ j ap]
     clear hk HP HQ am;generalize g.procs[j]=x at *;refine eK ?_;refine xA [_,_,_,_,_,_] ?_;intro en eo cf;refine eI [_,_,_,_,_,_] cf ?_;intro bp ab cg ep eq;revert L V O U Z X Y hp rx vx sx;refine eE cg ?_;intro L V O U Z X Y hp rx vx sx;refine cT (AC (fun wz=>Ext bp wz) 13 (.pure 0 (.pure 1 (.pure 2 (.pure 3 (.pure 4 (.pure 5 (.pure 7 (.pure 8 (.pure 9 (.fork 6 (.fork 10 (.pure 11 (.fork 12 .tail .none)) .none) .none)))))))))) mixed Bl (Al (Aa (Aa (Al (Aa An))))) ?_);intro ch aw _;have N:(fun wz=>Ext bp wz) ch:=aw;simp only at N;have an:=ab;have aq:=L;have a0:=V;have a1:=O;have a2:=U;have a3:=Z;have a4:=Y;have br:=hp;have bs:=rx;have bt:=vx;have bu:=sx;revert ab L V O U Z X Y hp rx vx sx;refine eY aw ?_;intro du ab L V O U Z X Y hp rx vx sx;refine ⟨N,?_⟩;refine eT ?_;refine Tq rfl (xL [_,_,_,_] (fun wz hz=>(dV an hz))) ?_;refine tC rfl rfl (HC.out _ _ _ _ Ag) ?_;rintro _ dv ⟨dw,⟨dx,⟨⟨⟩,⟨ad,⟨bv,dy⟩⟩⟩⟩⟩;revert N ab L V O U Z X Y hp rx vx sx;refine eY bv ?_;intro dz N ab L V O U Z X Y hp rx vx sx;refine ⟨N,?_⟩;refine A1 rfl (B4 (fi:=[]) (ca:=[]) b3 rfl rfl (HX.out _ _ _ _ Ag) (fun _ _ h=>h.ret)) rfl ?_ aFh A7;rintro _ d0 ⟨d1,⟨d2,⟨⟨⟩,⟨ao,bw⟩⟩⟩⟩;revert ad N ab L V O U Z X Y hp rx vx sx;refine eY bw ?_;intro d3 ad N ab L V O U Z X Y hp rx vx sx;refine ⟨N,?_⟩;refine Tq rfl (xB [_,_,_,_,_,_]) ?_;refine A1 rfl (xS [_,_,_,_,_,_]) rfl ?_ aFh A7;rintro _ d4 ⟨d5,rfl,ak,d6⟩;have bx:=ak.blk;have bz:=ak.ext;have d7:=ak.pos;have d8:=ak.size;revert ao ad N ab L V O U Z X Y hp rx vx sx;refine eE bz ?_;intro ao ad N ab L V O U Z X Y hp rx vx sx;refine ⟨N,?_⟩;clear an aq a0 a1 a2 a3 a4 br bs bt bu N;refine AF rfl ?_;refine Au (Jo (sh:=Fh) (z:=x.map f) Ac CM rfl rfl rfl rfl Bl rfl rfl rfl Ag (eC Ag) ⟨_,_,_,_,rfl,VDs.wide Ag (fun b h=>⟨Ab,fun e=>by have:=bo _ e;omega⟩),dR Ag (fun b h=>⟨Ab,fun e=>by have:=bo _ e;omega⟩),Ag⟩ Ab Ab) rfl ?_ aFh;rintro _ d9 ⟨ea,⟨b2,⟨rfl,⟨ax,ay⟩⟩⟩⟩
     have eb:=ay.size;clear bx ao ad ab L;revert V O U Z X Y hp rx vx sx;refine eF ay ?_;intro V O U Z X Y hp rx vx sx;refine C1 Pf (eV [_] [_,_,_,_,_,_] V ?_);intro ec ed b0 ee;clear V;revert ax O U Z X Y hp rx vx sx;refine eF b0 ?_;intro ax O U Z X Y hp rx vx sx;refine Ah (Ae (Ai (Ad (C1 V7 (C1 Mv (Ah ?_))))));exact Aw (j+1,xs++[x.map f],some ⟨_,0,none⟩,_) sB ⟨Ag,az,by simp only;omega,Ag,O,U,Y,Z,hp,X,Ab⟩ (by simp only;omega)
   . have ci:j=g.procs.length:=by omega
     subst ci;rw [bH] at am;refine eK ?_;refine eS [_,_,_,_,_,_] Z ?_;intro er es cj et;revert L V O U Y hp X;refine eF cj ?_;intro L V O U Y hp X;refine C1 Pa (cT (BD ?_));refine FW rfl Ac rfl rfl rfl Ag rfl rfl ?_;exact Vr am O bn L U X (fun b h=>by omega) (fun b h=>by omega) Ab
def OB {g:PG} (h:g.ok=true):g.few:=by
 obtain ⟨h1,L,-,f,E⟩:=Ic h;obtain ⟨-,-,M⟩:=body_iff.1 E;refine ⟨Ab,Ab,Ab,fun p F=>?_⟩;obtain ⟨-,N,-,c4⟩:=FC (f p F);obtain ⟨-,-,c3⟩:=body_iff.1 c4;exact ⟨Ab,Ab⟩
def PG.inv_id (q:Bool) (g:PG):g.inv id q=⟨g.vars,g.procs,g.main.inv q⟩:=by
 unfold PG.inv;congr 1
 conv=>rhs;rw [<-List.map_id g.procs]
 refine List.map_congr_left fun p _=>?_
 obtain ⟨a,b,c⟩:=p;rfl
def YL {g:PG} (h:g.wf) (f:g.ok=true) (S:nP) (E:oA) (N:Nat) (F:oA) (O:Nat) (L:oA) (U:Nat) (w:wD) (M:g.sits S w E F L) :
 Calls prog 51 #[.agg (g.cells E N F O L U).toArray,.func (.func 52) #[] #[],.bool false] w (KS (g.inv id false) 0 w):=
 Rx false 52 id Bl g h f (OB f) (Vp f) (fun p V S a c w M=>Ob p.body ((OB f).procs p V).2 S a c w M) S E N F O L U w M
def Ny {u:PG} {k:Int} {w w':wD} {E f F:oA} {L U V M N:Nat} (O:u.sits (fun b=>M<=b/\b<N) w' E f F) (Y:PDsC (fun b=>M<=b/\b<N) w' u.procs f) (Z:u.vars.length<=L) (X:Ext w w') (hl:w.heap.size<=M) (hh:N<=w'.heap.size):KS u k w (.returned (.tuple #[.agg #[.slice E u.vars.length L,.slice f u.procs.length U,.int .u8 u.main.kind,.int .i64 u.main.num,str u.main.name,.slice F u.main.kids.length V],.int .i64 k])) w':=
 ⟨E,L,f,U,F,V,rfl,⟨O.vars.wide fun b h=>by omega,PDs.wide O.procs fun b h=>by omega,dR O.main fun b h=>by omega⟩,PDsC.wide Y fun b h=>by omega,Z,X⟩
def Qd {k:Int} (u g:PG) (V : ∀(S:nP) (L:oA) (Y:Nat) (M:oA) (Z:Nat) (N:oA) (mc:Nat) (w:wD),g.sits S w L M N ->
      Calls prog 51 #[.agg (g.cells L Y M Z N mc).toArray,.func (.func 52) #[] #[],.bool false] w (KS u k w))
 (S:nP) (L:oA) (Y:Nat) (M:oA) (Z:Nat) (N:oA) (mc:Nat) (w:wD) (f:g.sits S w L M N) :
 Calls prog 26 #[.agg (g.cells L Y M Z N mc).toArray] w (KS u k w):=by
 have X:=dI w;have f:=f.ltA;have V:=bA V;refine Af func26 ntmps26 rfl rfl ?_;refine cS (eB [_,_,_,_,_,_] ?_);intro b1 w2 F x5 p6 z7;revert X f;refine eE x5 ?_;intro X f;refine eA [_,_,_,_,_,_] ?_;intro b8 w9 E aa aj ak;revert F X f;refine eE aa ?_;intro F X f;refine eK ?_;refine Au (Bb Bl rfl (V.out _ _ _ _ _ _ _ _ Ag) (fun _ _ ⟨_,_,_,_,_,_,h⟩=>⟨_,h.1⟩)) rfl ?_ aFh;rintro _ al ⟨ad,⟨ae,⟨af,⟨ag,⟨ah,⟨ai,⟨⟨⟩,⟨O,⟨U,⟨am,ab⟩⟩⟩⟩⟩⟩⟩⟩⟩⟩;revert E F X f;refine eY ab ?_;intro an E F X f;refine eK ?_;refine eS [_,_,_,_,_,_] E ?_;intro ao ap ac z31;revert O U F X f;refine eF ac ?_;intro O U F X f;refine C1 Pa (cT (BD ?_));refine FW rfl Ac rfl rfl rfl Ag rfl rfl ?_;exact Ny Ag Ag Ag X Ab Ab
def Id {g:PG} (f:g.wf) (h:g.ok=true) (S:nP) (E:oA) (M:Nat) (F:oA) (N:Nat) (L:oA) (O:Nat) (w:wD) (U:g.sits S w E F L) :
 Calls prog 26 #[.agg (g.cells E M F N L O).toArray] w (KS (g.inv id false) 0 w):=Qd _ g (YL f h) S E M F N L O w U
def LenR (n:Nat) (w:wD):Ending->wD->Prop:=fun e w'=> ∃a c,e = .returned (.slice a n c)/\Ext w w'
def LenR.ret {n:Nat} {w:wD} {e:Ending} {w':wD} (h:LenR n w e w') : ∃v,e = .returned v:=by
 obtain ⟨_,_,h,-⟩:=h;exact ⟨_,h⟩
def VDs.take {S:nP} {w:wD} {l:List VD} {a:oA} (h:VDs S w l a) (i:Nat):VDs S w (l.take i) a:=by
 rcases h with h|⟨b,o,h1,E,F⟩
 . exact bC (by rw [h];simp)
 . refine bF ⟨b,o,h1,E,fun j v f=>F j v ?_⟩;rw [List.getElem?_take] at f;split at f
   . exact f
   . cases f
def Kk (f:List PD) (K:Nat) : ∀(l:List PD) (i:Nat),(∀(i:Nat) (p:PD),p∈l->L6 f i p<=K)->EC f i l<=l.length*K
 | [],_,_=>by simp [EC]
 | p::r,i,h=>by
  have h1:=h i p Bd;have F:=Kk f K r (i+1) (fun i q E=>h i q (by simp [E]));unfold L6 at h1;simp only [EC,aV,Nat.add_mul];omega
def Ma {fb:Nat} {w f w':wD} {v E:Value} (x:Fr (fun k=>k=fb\/v.ownBlock=some k) w w') (h : ∀g,E.ownBlock=some g->v.ownBlock=some g\/f.heap.size<=g) (L:w.heap.size<=f.heap.size):Eff fb w v w' E:=⟨x,fun g F=>(h g F).imp id fun h=>by omega⟩
def Qe {w:wD} {b:Nat} {v:Value} (h:Blk w b [v]) (h1:Value.one v=true):PathAt (fun _=>True) w (some ⟨b,0,none⟩) 1 1:=⟨⟨bJ _,fun e=>by cases e⟩,[v],rfl,by simp [h1],bF ⟨b,0,rfl,trivial,h.row⟩⟩
set_option maxHeartbeats 8000000 in
def Qf (g:PG) (cv:g.wf) (bv:g.ok=true) (S:nP) (va:oA) (vc:Nat) (pa:oA) (pc:Nat) (ma:oA) (mc:Nat) (w:wD) (hs:g.sits S w va pa ma) (f:PDsC S w g.procs pa) (cw:g.vars.length<=vc) :
 Calls prog 49 #[.agg (g.cells va vc pa pc ma mc).toArray] w (LenR g.flt w):=by
 have dp:=OB bv;have HV:=bA (JJ cv bv);have E:=hs.vars.ltV;have L:=Hu _ _ hs.main;have f:=f.ltA;have hs:=hs.ltA;have X:=dI w;refine Af func49 ntmps49 rfl rfl ?_;refine cS (eB [_,_,_,_,_,_] ?_);intro b1 w2 Y x5 p6 z7;revert E L f hs X;refine eE x5 ?_;intro E L f hs X;refine eK ?_;refine cC rfl (HV.out _ _ _ _ _ _ _ _ Ag) ?_;rintro _ w9 ⟨⟨⟩,x8⟩;revert Y E L f hs X;refine eY x8 ?_;intro e3 Y E L f hs X;refine eK ?_;refine eA [_] ?_;intro V e5 bk cx e6 e7;revert Y E L f hs X;refine eE cx ?_;intro Y E L f hs X;refine cN (C1 (EW rfl) (xA [_] ?_));intro ag e8 cy;refine eI [_] cy ?_;intro bw N cz e9 fa;revert bk Y E L f hs X;refine eE cz ?_;intro bk Y E L f hs X;refine cT (Aj (cS (C1 Pg (C1 (Pl Y) (C1 Pz (C1 Mv (cT ?_)))))));obtain ⟨o1,o2,-,o4,o5⟩:=Ic bv;have b6:FS w.heap.size V 0 bw (.slice none 0 0):=⟨bk,OwnQ.nil,by simp [cV],Ab⟩;have k1:Kp V bw (.slice none 0 0) b1:=⟨Ab,Ab,by simp [cV]⟩;have kR:Kp V bw (.slice none 0 0) ag:=⟨Ab,Ab,by simp [cV]⟩;refine Ar ?_;refine AJ (ι:=Nat×Value) (fun x=>[(1,.pointer (some ⟨b1,0,none⟩)),(3,.pointer (some ⟨V,0,none⟩)),(4,.pointer (some ⟨ag,0,none⟩)),(16,.slice va g.vars.length vc),(17,.int .i64 g.vars.length),(18,.int .i64 x.1)])
  (fun x w'=>x.1<=g.vars.length/\FS w.heap.size V (CD [] (g.vars.take x.1)) w' x.2/\Kp V w' x.2 b1/\Kp V w' x.2 ag/\Blk w' ag [L3 V]/\Blk w' b1 (g.cells va vc pa pc ma mc)/\VDs (· < w.heap.size) w' g.vars va/\g.main.sits (· < w.heap.size) w' ma/\PDsC (· < w.heap.size) w' g.procs pa/\Ext w w')
  (fun x=>g.vars.length-x.1) (0,.slice none 0 0) sB ⟨bI _,b6,k1,kR,N,Y,E,L,f,X⟩ ?_
 clear b6 k1 kR N Y E L f X bk hs;rintro ⟨j,vj⟩ w3 ⟨hj,hF,k1,kR,N,Y,E,L,f,X⟩;simp only at hj hF k1 kR N Y E L f X;by_cases ap:j<g.vars.length
 . have F : ∀q,vj.ownBlock=some q->w.heap.size<=q/\q<w3.heap.size/\q≠b1/\q≠ag:=fun q hq=>⟨hF.own.ge hq,hF.own.lt hq,fun e=>k1.2.2 (e▸hq),fun e=>kR.2.2 (e▸hq)⟩
   have av:=k1.not;have aw:=kR.not;have bl:=k1.1;have bm:=kR.1;have a8:=hF.cell.lt;have b7:=X.size;obtain ⟨kb,ko,rfl,kS,ao⟩:=E.get (by intro e;rw [e] at ap;simp at ap);have r0:=ao j g.vars[j] (aY ap);have bx:(g.vars.take j).length=j:=by simp;omega
   have b8:=FB (g.vars.take j) [];have ac:=E.take j;have az:=bA (Oz (g.vars.take j) Ab g.vars[j].name);rw [bx] at az;have ax:=Ib g.vars [] j ap;rw [List.nil_append] at ax;have ai:=bA (fun (w':wD) (x:Ext w3 w') (S:nP) (qa:oA) (qn qc:Nat) (hq:qn<=1000000) (p:PathAt S w' qa qn qc)=>Ia w.heap.size V (CD [] (g.vars.take j)) vj (-1) (Fm (g.vars.take j) g.vars[j].name) g.vars[j].name S qa qn qc w' Ab hq p (hF.ext x));rw [<-ax] at ai;clear ao hF ax b8;have hm:(j:Int)=(j:Int):=rfl;generalize g.vars[j]=x at *;obtain ⟨xn,xk,xl⟩:=x;dsimp only at az ai;replace r0:Row w3 ⟨kb,ko+j*3,none⟩ [str xn,.int .u8 xk,.int .i64 xl]:=r0;generalize Fm (g.vars.take j) xn=ex at *;unfold L3 at N;have X3:=dI w3;have X4:=eG (fun k=>k=V\/vj.ownBlock=some k) w3
   focus
    refine eK ?_;refine eA [_,_,_] ?_;intro fc fd c0 c5 fe ff;revert N L f X Y E ac r0 X3 X4;refine eE c5 ?_;intro N L f X Y E ac r0 X3 X4;refine C1 Pa (eS [_,_,_] c0 ?_);intro b9 ae cb dq;revert N L f X Y E ac r0 X3 X4;refine eF cb ?_;intro N L f X Y E ac r0 X3 X4;refine cT (AC (fun wz=>Ext b9 wz) 12 (.pure 0 (.pure 1 (.pure 3 (.pure 4 (.pure 5 (.pure 6 (.pure 7 (.pure 8 (.pure 9 (.pure 10 (.fork 2 (.fork 11 .tail .none) (.fork 11 (.fork 2 .tail .none) .none)))))))))))) mixed Bl (Al (Aa (Aa (Al (Aa An))))) ?_);intro cc br _;have ad:(fun wz=>Ext b9 wz) cc:=br;simp only at ad;have bn:=ae;have a9:=N;have bb:=L;have bd:=f;have be:=Y;have bf:=E;have bz:=ac;have bs:=r0;revert ae N L f X Y E ac r0 X3 X4;refine eY br ?_;intro dr ae N L f X Y E ac r0 X3 X4;refine ⟨ad,?_⟩;refine eT ?_;refine Tq rfl (Jw Ac rfl rfl rfl rfl hm Ab) (Tq rfl Pg (Tq rfl (Db bn) ?_));refine A1 rfl (xS [_]) rfl ?_ aFh ?kra18;rintro _ ds ⟨dt,rfl,a5,du⟩;have a0:=a5.blk;dsimp only at a0;have cd:=a5.ext;have dv:=a5.pos;have dw:=a5.size;revert ad ae N L f X Y E ac r0 X3 X4;refine eE cd ?_;intro ad ae N L f X Y E ac r0 X3 X4;refine ⟨ad,?_⟩;refine tC rfl rfl (az.out _ _ _ _ ac) ?_;rintro _ dx ⟨⟨⟩,ce⟩;revert a0 ad ae N L f X Y E ac r0 X3 X4;refine eY ce ?_;intro dy a0 ad ae N L f X Y E ac r0 X3 X4;refine ⟨ad,?_⟩;refine AF rfl ?_;refine Au (B4 (fi:=[]) (ca:=[.pointer (some ⟨V,0,none⟩)]) Bl rfl rfl (ai.out _ Ag _ _ _ _ Ab (Qe Ag rfl)) (fun _ _ h=>h.ret)) rfl ?_ aFh;rintro _ dz ⟨⟨⟩,⟨c6,⟨d0,⟨aj,d2⟩⟩⟩⟩;have d3:=aj.size;have a0:=dQ a0 aj (fun h=>by (rcases h with h|h;omega;have:=F _ h;omega));have ae:=dQ ae aj (fun h=>by (rcases h with h|h;omega;have:=F _ h;omega));have N:=dQ N aj (aw);have L:=eO L aj (fun b hb h=>by (rcases h with h|h;omega;have:=F _ h;omega));have f:=PDsC.fr f aj (fun b hb h=>by (rcases h with h|h;omega;have:=F _ h;omega));have X:=eX X aj (fun k hk=>by (rcases hk with h|h;omega;have:=F _ h;omega));have Y:=dQ Y aj (av);have E:=fD E aj (fun b hb h=>by (rcases h with h|h;omega;have:=F _ h;omega))
    have ac:=fD ac aj (fun b hb h=>by (rcases h with h|h;omega;have:=F _ h;omega));have X4:=Fr.fr X4 aj (fun k hk=>bC hk);refine Ah (Ae (Ai (Ad (C1 V7 (C1 Mv (Ah ?_))))));rotate_left;refine tC rfl rfl (az.out _ _ _ _ ac) ?_;rintro _ d4 ⟨⟨⟩,cf⟩;revert ad ae N L f X Y E ac r0 X3 X4;refine eY cf ?_;intro d5 ad ae N L f X Y E ac r0 X3 X4;refine ⟨ad,?_⟩;refine A1 rfl (xS [_]) rfl ?_ aFh A7;rintro _ d6 ⟨d7,rfl,a6,d8⟩;have bg:=a6.blk;dsimp only at bg;have cg:=a6.ext;have d9:=a6.pos;have ea:=a6.size;revert ad ae N L f X Y E ac r0 X3 X4;refine eE cg ?_;intro ad ae N L f X Y E ac r0 X3 X4;refine ⟨ad,?_⟩;refine AF rfl ?_;refine Au (B4 (fi:=[]) (ca:=[.pointer (some ⟨V,0,none⟩)]) Bl rfl rfl (ai.out _ Ag _ _ _ _ Ab (Qe Ag rfl)) (fun _ _ h=>h.ret)) rfl ?_ aFh;rintro _ eb ⟨⟨⟩,⟨c7,⟨ec,⟨ak,ed⟩⟩⟩⟩;have ee:=ak.size;have bg:=dQ bg ak (fun h=>by (rcases h with h|h;omega;have:=F _ h;omega));have ae:=dQ ae ak (fun h=>by (rcases h with h|h;omega;have:=F _ h;omega));have N:=dQ N ak (aw);have L:=eO L ak (fun b hb h=>by (rcases h with h|h;omega;have:=F _ h;omega));have f:=PDsC.fr f ak (fun b hb h=>by (rcases h with h|h;omega;have:=F _ h;omega));have X:=eX X ak (fun k hk=>by (rcases hk with h|h;omega;have:=F _ h;omega));have Y:=dQ Y ak (av);have E:=fD E ak (fun b hb h=>by (rcases h with h|h;omega;have:=F _ h;omega));have ac:=fD ac ak (fun b hb h=>by (rcases h with h|h;omega;have:=F _ h;omega));have X4:=Fr.fr X4 ak (fun k hk=>bC hk);refine Ah (Ae (Ai (Ad (C1 V7 (C1 Mv (Ah ?_))))));rotate_left
   . have e4:=Ma X4 Ag Ab;exact Aw (j+1,_) sB ⟨by simp only;omega,Ag,k1.eff e4,kR.eff e4,N,Y,E,L,f,X⟩ (by simp only;omega)
   . have e4:=Ma X4 Ag Ab;exact Aw (j+1,_) sB ⟨by simp only;omega,Ag,k1.eff e4,kR.eff e4,N,Y,E,L,f,X⟩ (by simp only;omega)
 . obtain rfl:j=g.vars.length:=by omega
   rw [bH] at hF;refine cS (C1 V3 (cT (Aj (C9 (CB (AG (AG (A8 (Ai (Aj (cS ?_)))))))))));refine C1 Pf (C1 (Pl Y) (C1 Pz (C1 Mv (cT ?_))));refine Ar ?_;refine AJ (ι:=Nat×Value) (fun x=>[(1,.pointer (some ⟨b1,0,none⟩)),(3,.pointer (some ⟨V,0,none⟩)),(4,.pointer (some ⟨ag,0,none⟩)),(38,.slice pa g.procs.length pc),(39,.int .i64 g.procs.length),(40,.int .i64 x.1)])
    (fun x w'=>x.1<=g.procs.length/\FS w.heap.size V (CD [] g.vars+EC g.procs 0 (g.procs.take x.1)) w' x.2/\Kp V w' x.2 b1/\Kp V w' x.2 ag/\Blk w' ag [L3 V]/\Blk w' b1 (g.cells va vc pa pc ma mc)/\VDs (· < w.heap.size) w' g.vars va/\g.main.sits (· < w.heap.size) w' ma/\PDsC (· < w.heap.size) w' g.procs pa/\Ext w w')
    (fun x=>g.procs.length-x.1) (0,vj) sB ⟨bI _,hF,k1,kR,N,Y,E,L,f,X⟩ ?_
   clear hF k1 kR N Y E L f X ap hj;rintro ⟨j,vj⟩ w3 ⟨hj,hF,k1,kR,N,Y,E,L,f,X⟩;simp only at hj hF k1 kR N Y E L f X;have b8:=FB g.vars [];by_cases ap:j<g.procs.length
   . have F : ∀q,vj.ownBlock=some q->w.heap.size<=q/\q<w3.heap.size/\q≠b1/\q≠ag:=fun q hq=>⟨hF.own.ge hq,hF.own.lt hq,fun e=>k1.2.2 (e▸hq),fun e=>kR.2.2 (e▸hq)⟩
     have av:=k1.not;have aw:=kR.not;have bl:=k1.1;have bm:=kR.1;have a8:=hF.cell.lt;have b7:=X.size;have ch:=Kk g.procs 2009 (g.procs.take j) 0 (fun i p hp=>by
      obtain ⟨c1,c2,-,c4⟩:=FC (o4 p (List.mem_of_mem_take hp));obtain ⟨-,-,c3⟩:=body_iff.1 c4;have h1:=FB p.params [];have h2:=Rs g.procs p.body p.params;unfold L6;split<;>omega)
     have c8:(g.procs.take j).length*2009<=64*2009:=Nat.mul_le_mul_right _ (by simp;omega);have ax:=KR g.procs g.procs 0 j ap;rw [Nat.zero_add] at ax;have c9:=Vn ap;obtain ⟨c1,c2,-,c4⟩:=FC (o4 _ (bD ap));obtain ⟨-,-,c3⟩:=body_iff.1 c4;have ab:=f.pds;obtain ⟨kb,ko,rfl,kS,ao⟩:=f.get (by intro e;rw [e] at ap;simp at ap);obtain ⟨qa,qc,ba,bc,r0,Z,aa,da⟩:=ao j g.procs[j] (aY ap);clear ao c4;have ci:=bA (Rr g Ab g.procs[j].name (· < w.heap.size) va vc (some ⟨kb,ko,none⟩) pc ma mc);generalize hM:CD [] g.vars+EC g.procs 0 (g.procs.take j)=M at *;have fg:M<=1000000:=by omega
     generalize H9 g.procs g.procs[j].name=np at *;generalize g.procs[j]=x at *;refine eK ?_;refine eA [_] ?_;intro ay fh b0 db fj fk;revert N E L X Y f ab hF r0 Z aa;refine eE db ?_;intro N E L X Y f ab hF r0 Z aa;refine eA [_,_,_,_,_,_] ?_;intro a1 ef bh cj eg eh;revert b0 N E L X Y f ab hF r0 Z aa;refine eE cj ?_;intro b0 N E L X Y f ab hF r0 Z aa;refine eS [_] b0 ?_;intro ei O bi ej;revert bh N E L X Y f ab;refine eF bi ?_;intro bh N E L X Y f ab;have hF:=FS.fr hF bi (fun k hk=>⟨Ab,fun e=>by have:=F _ e;omega⟩);revert r0 Z aa;refine eF bi ?_;intro r0 Z aa;refine eS [_,_,_,_,_,_] bh ?_;intro al U bj ek;revert O N E L X Y f ab;refine eF bj ?_;intro O N E L X Y f ab;have hF:=FS.fr hF bj (fun k hk=>⟨Ab,fun e=>by have:=F _ e;omega⟩);revert r0 Z aa;refine eF bj ?_;intro r0 Z aa;refine cT (Aj ?_);have am:Kp V al vj ay:=⟨Ab,Ab,fun e=>by have:=F _ e;omega⟩;have aq:Kp V al vj a1:=⟨Ab,Ab,fun e=>by have:=F _ e;omega⟩;have k1:=k1.grow (w':=al) Ab;have kR:=kR.grow (w':=al) Ab;have ai:=bA (fun (w':wD) (x':Ext al w')=>Ia w.heap.size V M vj j 22 x.name (fun _=>True) none 0 0 w' Ab Ab PathAt.nil (hF.ext x'));rw [show M+QP 22=M+1 from rfl] at ai;refine Ff (ι:=Value) (fun _=>[(1,.pointer (some ⟨b1,0,none⟩)),(3,.pointer (some ⟨V,0,none⟩)),(4,.pointer (some ⟨ag,0,none⟩)),(38,.slice (some ⟨kb,ko,none⟩) g.procs.length pc),(39,.int .i64 g.procs.length),(40,.int .i64 j),(7,.pointer (some ⟨ay,0,none⟩)),(8,.pointer (some ⟨a1,0,none⟩))]) (fun v2 w'=>FS w.heap.size V (M+(if np<(j:Int) then 1 else 0)) w' v2/\Kp V w' v2 b1/\Kp V w' v2 ag/\Kp V w' v2 ay/\Kp V w' v2 a1/\Blk w' ag [L3 V]/\Blk w' b1 (g.cells va vc (some ⟨kb,ko,none⟩) pc ma mc)/\VDs (· < w.heap.size) w' g.vars va/\g.main.sits (· < w.heap.size) w' ma/\PDsC (· < w.heap.size) w' g.procs (some ⟨kb,ko,none⟩)/\Ext w w'/\Blk w' ay [.int .i64 j]/\Blk w' a1 (x.cells qa qc ba bc)/\VDs (· < w.heap.size) w' x.params qa/\x.body.sits (· < w.heap.size) w' ba) ?_ ?_
     . have X3:=dI al;have X4:=eG (fun k=>k=V\/vj.ownBlock=some k) al;unfold L3 at N
       focus
        refine Aj (AC (fun wz=>Ext al wz) 5 (.pure 0 (.pure 1 (.pure 2 (.pure 4 (.fork 3 .tail .none))))) mixed Bl (Aa (Aa (Al (Aa (Aa (Al (Aa An))))))) ?_);intro dc ck _;have a2:(fun wz=>Ext al wz) dc:=ck;simp only at a2;have bo:=U;have bp:=O;have a9:=N;have bf:=E;have bb:=L;have be:=Y;have bd:=f;have cu:=ab;have el:=hF;have bs:=r0;have b2:=Z;have b3:=aa;revert U O N E L X Y f ab hF r0 Z aa X3 X4;refine eY ck ?_;intro fl U O N E L X Y f ab hF r0 Z aa X3 X4;refine ⟨a2,?_⟩;refine Tq rfl (xL [_,_,_,_,_,_] (fun wz hz=>(dV be hz))) ?_;refine eT ?_;refine tC rfl rfl (ci.out _ Ag) ?_;rintro _ fm ⟨⟨⟩,dd⟩;revert a2 U O N E L X Y f ab hF r0 Z aa X3 X4;refine eY dd ?_;intro fo a2 U O N E L X Y f ab hF r0 Z aa X3 X4;refine ⟨a2,?_⟩;refine AF rfl ?_;refine eK ?_;refine AH rfl (fun de=>?_) (fun de=>?_);refine eK ?_;refine Au (B4 (fi:=[]) (ca:=[.pointer (some ⟨V,0,none⟩)]) Bl rfl rfl (ai.out _ Ag) (fun _ _ h=>h.ret)) rfl ?_ aFh;rintro _ em ⟨⟨⟩,⟨df,⟨en,⟨ah,eo⟩⟩⟩⟩;have ep:=ah.size;have U:=dQ U ah (fun h=>by (rcases h with h|h;omega;have:=F _ h;omega));have O:=dQ O ah (fun h=>by (rcases h with h|h;omega;have:=F _ h;omega));have N:=dQ N ah (aw);have E:=fD E ah (fun b hb h=>by (rcases h with h|h;omega;have:=F _ h;omega));have L:=eO L ah (fun b hb h=>by (rcases h with h|h;omega;have:=F _ h;omega));have X:=eX X ah (fun k hk=>by (rcases hk with h|h;omega;have:=F _ h;omega));have Y:=dQ Y ah (av);have f:=PDsC.fr f ah (fun b hb h=>by (rcases h with h|h;omega;have:=F _ h;omega));have ab:=PDs.fr ab ah (fun b hb h=>by (rcases h with h|h;omega;have:=F _ h;omega));clear hF r0;have Z:=fD Z ah (fun b hb h=>by (rcases h with h|h;omega;have:=F _ h;omega));have aa:=eO aa ah (fun b hb h=>by (rcases h with h|h;omega;have:=F _ h;omega));have X4:=Fr.fr X4 ah (fun k hk=>bC hk);refine Ah ?_;rotate_left;refine As ?_;rotate_left
       . have e4:=Ma X4 Ag Ab;exact BL _ sB ⟨by rw [AU Ag];assumption,k1.eff e4,kR.eff e4,am.eff e4,aq.eff e4,N,Y,E,L,f,X,O,U,Z,aa⟩
       . exact BL vj sB ⟨by rw [AE Ag];exact hF,k1.grow Ab,kR.grow Ab,am.grow Ab,aq.grow Ab,N,Y,E,L,f,X,O,U,Z,aa⟩
     . clear U O N Y E L f ab hF r0 Z aa X k1 kR am aq ai ci F av aw bl bm a8;rintro v2 w4 ⟨hF,k1,kR,am,aq,N,Y,E,L,f,X,O,U,Z,aa⟩;obtain ⟨d1,b4⟩ : ∃d1:Nat,d1=(if np<(j:Int) then 1 else 0):=⟨_,rfl⟩
       have eq:d1<=1:=by rw [b4];split<;>omega
       rw [<-b4] at hF;refine Aj (cS (C1 Pf (C1 (Pl U) (C1 Pz (C1 Mv (cT ?_))))));refine Ar ?_;refine AJ (ι:=Nat×Value) (fun y=>[(1,.pointer (some ⟨b1,0,none⟩)),(3,.pointer (some ⟨V,0,none⟩)),(4,.pointer (some ⟨ag,0,none⟩)),(38,.slice (some ⟨kb,ko,none⟩) g.procs.length pc),(39,.int .i64 g.procs.length),(40,.int .i64 j),(7,.pointer (some ⟨ay,0,none⟩)),(8,.pointer (some ⟨a1,0,none⟩)),(57,.slice qa x.params.length qc),(58,.int .i64 x.params.length),(59,.int .i64 y.1)])
        (fun y w'=>y.1<=x.params.length/\FS w.heap.size V (M+d1+CD [] (x.params.take y.1)) w' y.2/\Kp V w' y.2 b1/\Kp V w' y.2 ag/\Kp V w' y.2 ay/\Kp V w' y.2 a1/\Blk w' ag [L3 V]/\Blk w' b1 (g.cells va vc (some ⟨kb,ko,none⟩) pc ma mc)/\VDs (· < w.heap.size) w' g.vars va/\g.main.sits (· < w.heap.size) w' ma/\PDsC (· < w.heap.size) w' g.procs (some ⟨kb,ko,none⟩)/\Ext w w'/\Blk w' ay [.int .i64 j]/\Blk w' a1 (x.cells qa qc ba bc)/\VDs (· < w.heap.size) w' x.params qa/\x.body.sits (· < w.heap.size) w' ba)
        (fun y=>x.params.length-y.1) (0,v2) sB ⟨bI _,hF,k1,kR,am,aq,N,Y,E,L,f,X,O,U,Z,aa⟩ ?_
       clear hF k1 kR am aq N Y E L f X O U Z aa;rintro ⟨i,vi⟩ w5 ⟨hi,hF,k1,kR,am,aq,N,Y,E,L,f,X,O,U,Z,aa⟩;simp only at hi hF k1 kR am aq N Y E L f X O U Z aa;have dg:=FB (x.params.take i) [];have F : ∀q,vi.ownBlock=some q->w.heap.size<=q/\q<w5.heap.size/\q≠b1/\q≠ag/\q≠ay/\q≠a1:=fun q hq=>⟨hF.own.ge hq,hF.own.lt hq,fun e=>k1.2.2 (e▸hq),fun e=>kR.2.2 (e▸hq),fun e=>am.2.2 (e▸hq),fun e=>aq.2.2 (e▸hq)⟩
       have av:=k1.not;have aw:=kR.not;have bl:=k1.1;have bm:=kR.1;have cl:=am.not;have cm:=aq.not;have fp:=am.1;have fq:=aq.1;have er:=hF.cell.lt;by_cases a7:i<x.params.length
       . obtain ⟨zb,zo,rfl,zS,ao⟩:=Z.get (by intro e;rw [e] at a7;simp at a7);have r0:=ao i x.params[i] (aY a7);have bx:(x.params.take i).length=i:=by simp;omega
         have ac:=Z.take i;have az:=bA (Oz (x.params.take i) Ab x.params[i].name);rw [bx] at az;have ax:=Ib x.params [] i a7;rw [List.nil_append] at ax;have bt:M+d1+CD [] (x.params.take (i+1))=M+d1+CD [] (x.params.take i)+QP (Fm (x.params.take i) x.params[i].name):=by rw [ax];omega
         have ai:=bA (fun (w':wD) (x':Ext w5 w')=>Ia w.heap.size V (M+d1+CD [] (x.params.take i)) vi j (Fm (x.params.take i) x.params[i].name) x.params[i].name (fun _=>True) none 0 0 w' Ab Ab PathAt.nil (hF.ext x'));rw [<-bt] at ai;clear ao hF ax bt;have hm:(i:Int)=(i:Int):=rfl;generalize x.params[i]=y at *;obtain ⟨yn,yk,yl⟩:=y;dsimp only at az ai;replace r0:Row w5 ⟨zb,zo+i*3,none⟩ [str yn,.int .u8 yk,.int .i64 yl]:=r0;generalize Fm (x.params.take i) yn=ex at *;unfold L3 at N;have X3:=dI w5;have X4:=eG (fun k=>k=V\/vi.ownBlock=some k) w5;refine eK ?_;refine eA [_,_,_] ?_;intro fs ft dh di fu fv;revert N Y E L f X O aa U Z ac r0 X3 X4;refine eE di ?_;intro N Y E L f X O aa U Z ac r0 X3 X4;refine C1 Pa (eS [_,_,_] dh ?_);intro cn ar co es;revert N Y E L f X O aa U Z ac r0 X3 X4;refine eF co ?_;intro N Y E L f X O aa U Z ac r0 X3 X4;refine cT (AC (fun wz=>Ext cn wz) 11 (.pure 0 (.pure 1 (.pure 2 (.pure 3 (.pure 4 (.pure 5 (.pure 6 (.pure 7 (.pure 8 (.pure 9 (.fork 10 .tail .none))))))))))) mixed Bl (Al (Aa (Aa (Al (Aa (Al (Aa (Aa (Al (Aa An)))))))))) ?_);intro cp bu _;have au:(fun wz=>Ext cn wz) cp:=bu;simp only at au;have bq:=ar;have a9:=N;have be:=Y;have bf:=E;have bb:=L;have bd:=f;have bp:=O;have b3:=aa;have bo:=U;have b2:=Z;have bz:=ac;have bs:=r0;revert ar N Y E L f X O aa U Z ac r0 X3 X4;refine eY bu ?_;intro et ar N Y E L f X O aa U Z ac r0 X3 X4;refine ⟨au,?_⟩;refine eT ?_;refine Tq rfl (Jw Ac rfl rfl rfl rfl hm Ab) (Tq rfl Pg (Tq rfl (Db bq) ?_));refine tC rfl rfl (az.out _ _ _ _ ac) ?_
         rintro _ eu ⟨⟨⟩,cq⟩;revert au ar N Y E L f X O aa U Z ac r0 X3 X4;refine eY cq ?_;intro ew au ar N Y E L f X O aa U Z ac r0 X3 X4;refine ⟨au,?_⟩;refine AF rfl ?_;refine Au (B4 (fi:=[]) (ca:=[.pointer (some ⟨V,0,none⟩)]) Bl rfl rfl (ai.out _ Ag) (fun _ _ h=>h.ret)) rfl ?_ aFh;rintro _ ey ⟨⟨⟩,⟨dk,⟨ez,⟨af,e0⟩⟩⟩⟩;have e1:=af.size;have ar:=dQ ar af (fun h=>by (rcases h with h|h;omega;have:=F _ h;omega));have N:=dQ N af (aw);have Y:=dQ Y af (av);have E:=fD E af (fun b hb h=>by (rcases h with h|h;omega;have:=F _ h;omega));have L:=eO L af (fun b hb h=>by (rcases h with h|h;omega;have:=F _ h;omega));have f:=PDsC.fr f af (fun b hb h=>by (rcases h with h|h;omega;have:=F _ h;omega));have X:=eX X af (fun k hk=>by (rcases hk with h|h;omega;have:=F _ h;omega));have O:=dQ O af (cl);have aa:=eO aa af (fun b hb h=>by (rcases h with h|h;omega;have:=F _ h;omega));have U:=dQ U af (cm);have Z:=fD Z af (fun b hb h=>by (rcases h with h|h;omega;have:=F _ h;omega));have ac:=fD ac af (fun b hb h=>by (rcases h with h|h;omega;have:=F _ h;omega));have X4:=Fr.fr X4 af (fun k hk=>bC hk);refine Ah (Ae (Ai (Ad (C1 V7 (C1 Mv (Ah ?_))))))
         have e4:=Ma X4 Ag Ab;exact Aw (i+1,_) sB ⟨by simp only;omega,Ag,k1.eff e4,kR.eff e4,am.eff e4,aq.eff e4,N,Y,E,L,f,X,O,U,Z,aa⟩ (by simp only;omega)
       . obtain rfl:i=x.params.length:=by omega
         rw [bH] at hF dg;have a3:=bA (fun (w':wD) (x':Ext w5 w') (h1:x.body.sits (· < w.heap.size) w' ba) (h2:PDs (· < w.heap.size) w' g.procs (some ⟨kb,ko,none⟩)) (h3:VDs (· < w.heap.size) w' x.params qa)=>
          P8 w.heap.size V Ab 92 [.pointer (some ⟨ag,0,none⟩),.pointer (some ⟨ay,0,none⟩)] Bl _ (TK w.heap.size V ag ay j) g Ab va vc (some ⟨kb,ko,none⟩) pc ma mc (x.body.size+1)
           x.body x.params (· < w.heap.size) (fun _=>False) ba bc qa qc none 0 0 w' vi (M+d1+CD [] x.params) Ab Ab Ab Ab h1 h2 h3 da PathAt.nil
           (fun b hb=>⟨by have:=x'.size;have:=X.size;omega,Ab,fun e=>by have:=F _ e;omega⟩) (fun _ h=>h.elim) (hF.ext x') ⟨N.ext x',O.ext x',kR.grow x'.size,am.grow x'.size⟩)
         have cr:M+d1+CD [] x.params+x.body.flt g.procs x.params=CD [] g.vars+EC g.procs 0 (g.procs.take (j+1)):=by
          have dl:d1=if (FI g.procs x.name).getD j<j then 1 else 0:=by
           rw [b4];have h:=decide_eq_decide.1 c9;by_cases h1:np<(j:Int)
           . rw [AU h1,AU (h.1 h1)]
           . rw [AE h1,AE (fun e=>h1 (h.2 e))]
          rw [ax,dl,L6];omega
         rw [cr] at a3;have ab:=f.pds;have X3:=dI w5;have X4:=eG (fun k=>k=V\/vi.ownBlock=some k) w5;refine eK ?_;refine C1 (EW rfl) (cC rfl (a3.out _ Ag Ag Ag Ag) ?_);rintro _ fw ⟨⟨⟩,⟨e2,⟨fx,⟨an,fy⟩⟩⟩⟩;have fz:=an.size;have N:=dQ N an (aw);have Y:=dQ Y an (av);have E:=fD E an (fun b hb h=>by (rcases h with h|h;omega;have:=F _ h;omega));have L:=eO L an (fun b hb h=>by (rcases h with h|h;omega;have:=F _ h;omega));have f:=PDsC.fr f an (fun b hb h=>by (rcases h with h|h;omega;have:=F _ h;omega));have X:=eX X an (fun k hk=>by (rcases hk with h|h;omega;have:=F _ h;omega));have O:=dQ O an (cl);have U:=dQ U an (cm);have Z:=fD Z an (fun b hb h=>by (rcases h with h|h;omega;have:=F _ h;omega));have aa:=eO aa an (fun b hb h=>by (rcases h with h|h;omega;have:=F _ h;omega));clear hF;have ab:=PDs.fr ab an (fun b hb h=>by (rcases h with h|h;omega;have:=F _ h;omega));have X4:=Fr.fr X4 an (fun k hk=>bC hk);refine Ah (Ae (Ai (Ad (C1 V7 (C1 Mv (Ah ?_))))));have e4:=Ma X4 Ag Ab;exact Aw (j+1,_) sB ⟨by simp only;omega,Ag,k1.eff e4,kR.eff e4,N,Y,E,L,f,X⟩ (by simp only;omega)
   . obtain rfl:j=g.procs.length:=by omega
     rw [bH] at hF;have F : ∀q,vj.ownBlock=some q->w.heap.size<=q/\q<w3.heap.size/\q≠b1/\q≠ag:=fun q hq=>⟨hF.own.ge hq,hF.own.lt hq,fun e=>k1.2.2 (e▸hq),fun e=>kR.2.2 (e▸hq)⟩
     have av:=k1.not;have aw:=kR.not;have bl:=k1.1;have bm:=kR.1;have a8:=hF.cell.lt;have b7:=X.size;obtain ⟨-,-,c3⟩:=body_iff.1 o5;have ch:=Kk g.procs 2009 g.procs 0 (fun i p hp=>by
      obtain ⟨c1,c2,-,c4⟩:=FC (o4 p hp);obtain ⟨-,-,c3⟩:=body_iff.1 c4;have h1:=FB p.params [];have h2:=Rs g.procs p.body p.params;unfold L6;split<;>omega)
     have c8:g.procs.length*2009<=64*2009:=Nat.mul_le_mul_right _ o2;have ab:=f.pds;have a3:=bA (fun (w':wD) (x':Ext w3 w') (h1:g.main.sits (· < w.heap.size) w' ma) (h2:PDs (· < w.heap.size) w' g.procs pa) (h3:VDs (· < w.heap.size) w' g.vars va)=>
      P8 w.heap.size V Ab 93 [.pointer (some ⟨ag,0,none⟩),.pointer (some ⟨b1,0,none⟩)] Bl _ (TL w.heap.size V ag b1 g va vc pa pc ma mc) g Ab va vc pa pc ma mc (g.main.size+1)
       g.main g.vars (· < w.heap.size) (fun _=>False) ma mc va vc none 0 0 w' vj (CD [] g.vars+EC g.procs 0 g.procs) Ab Ab Ab Ab h1 h2 h3 cw PathAt.nil
       (fun b hb=>⟨by have:=x'.size;omega,Ab,fun e=>by have:=F _ e;omega⟩) (fun _ h=>h.elim) (hF.ext x') ⟨N.ext x',Y.ext x',kR.grow x'.size,k1.grow x'.size⟩)
     rw [show CD [] g.vars+EC g.procs 0 g.procs+g.main.flt g.procs g.vars=g.flt from rfl] at a3;have X3:=dI w3;clear hF;refine eK ?_;refine C1 (EW rfl) (cC rfl (a3.out _ Ag Ag Ag Ag) ?_);rintro _ f0 ⟨⟨⟩,⟨ct,⟨b5,⟨a4,dm⟩⟩⟩⟩;have f1:=a4.size;have N:=dQ N a4 (aw);have Y:=dQ Y a4 (av);have E:=fD E a4 (fun b hb h=>by (rcases h with h|h;omega;have:=F _ h;omega));have L:=eO L a4 (fun b hb h=>by (rcases h with h|h;omega;have:=F _ h;omega));have f:=PDsC.fr f a4 (fun b hb h=>by (rcases h with h|h;omega;have:=F _ h;omega));have X:=eX X a4 (fun k hk=>by (rcases hk with h|h;omega;have:=F _ h;omega));have ab:=PDs.fr ab a4 (fun b hb h=>by (rcases h with h|h;omega;have:=F _ h;omega));refine cT ?_;have dn : ∃a c,ct = .slice a g.flt c:=by
      obtain ⟨f2,h1,-⟩:=b5.own.ex;rw [List.length_replicate] at h1;rcases h1.row with ⟨h2,h0,-⟩|⟨q,cap,h2,-⟩
      . exact ⟨none,0,by rw [h2,h0]⟩
      . exact ⟨_,_,h2⟩
     have hc:=b5.cell;obtain ⟨ra,rc,rfl⟩:=dn;clear b5 dm N Y E L f ab;refine eK ?_;refine xR ?_;exact ⟨_,_,rfl,X⟩
def KT {x:Nd} : ∀ {l:List Nd},x∈B9 l -> ∃t∈l,x∈t.walk
 | [],h=>by simp [B9] at h
 | t::r,h=>by
  simp only [B9,List.mem_append] at h;rcases h with h|h
  . exact ⟨t,Bd,h⟩
  . obtain ⟨u,f,E⟩:=KT h;exact ⟨u,by simp [f],E⟩
def TO {k n:Int} {s:lB} {l:List Nd} (h:(Nd.mk k n s l).good) : ∀x∈l,x.good:=by
 intro x f;rcases h with h|h|h
 . cases Ds h with
   | call _ _ _ L=>exact bF (bF (IZ (cX.1 L x f)))
   | upd _ h1 E=>simp only [bR,bX,or_false] at f;rcases f with rfl|rfl<;>first|exact bF (bF (Bq Ag))|exact bF (bF Ag)
   | swap h1 E=>simp only [bR,bX,or_false] at f;rcases f with rfl|rfl<;>exact bF (bF (Bq Ag))
   | stack _ _ h1=>simp only [bR,bX,or_false] at f;rw [f];exact bF (bF (Bq h1))
   | tape _ h1=>simp only [bR,bX,or_false] at f;rw [f];exact bF (bF (Bq h1))
   | branch _ h1 E M N=>simp only [bR,bX,or_false] at f;rcases f with rfl|rfl|rfl|rfl<;>first|exact bF (bF Ag)|exact bF (bC Ag)
   | local_ _ h1 E M=>simp only [bR,bX,or_false] at f;rcases f with rfl|rfl|rfl<;>first|exact bF (bF Ag)|exact bF (bC Ag)
   | lstack _ h1=>simp only [bR,bX,or_false] at f;rw [f];exact bF (bC h1)
 . obtain ⟨e,F⟩:=EU h;simp only [dN] at F;exact bC (rowStmt_iff.1 F x f)
 . exact bF (bF ((No h).2.1 x f))
def TP (N:Nat) : ∀t:Nd,t.size<N->t.good->t.wf -> ∀x∈t.walk,x.good/\x.wf/\x.size<=t.size:=by
 induction N with
 | zero=>intro t h;omega
 | succ N O=>
  rintro ⟨k,n,s,l⟩ U M E x f;rw [Nd.walk,bR] at f;rcases f with rfl|f
  . exact ⟨M,E,bJ _⟩
  . obtain ⟨t,F,L⟩:=KT f;have X:=Df F;simp only [dL] at U ⊢;obtain ⟨h1,V,Y⟩:=O t Ab (TO M t F) (BJ (by simp only [Nd.wf] at E;exact E.2.2.2.2.2.2) t F) x L;exact ⟨h1,V,Ab⟩
def Mb {t:Nd} (h:t.isBlock=true) (f:t.wf) : ∀x∈t.walk,x.good/\x.wf/\x.size<=t.size:=TP (t.size+1) t Ab (bF (bC h)) f
def JK {P:Program} {n:Nat} {l:Sl} {tab:Tab} {zt:Ey} {ty:TypeId} {w:wD} {x y:Operand} {t e sz1 B B' c d:Nat} {a a':oA} {sE:Sk} {zs:lV} {xs ys:List Int} (T:TabOk P tab) (Z:Cy P zt) (ht:AD tab t=some (.slice e,sz1)) (hE:AD tab e=some (sE,4)) (hz:CT zt e=some zs) (hzl:zs.length=4)
 (hby:Do P e=true) (hx:ev l x=some (.slice a xs.length c)) (hy:ev l y=some (.slice a' ys.length d)) (hox:OwnQ rejShape w (fun _=>False) B e (.slice a xs.length c) xs) (hoy:OwnQ rejShape w (fun _=>False) B' e (.slice a' ys.length d) ys) (hxn:xs=[]->a=none/\c=0) (hyn:ys=[]->a'=none/\d=0) (hlen:xs.length+ys.length<=10000000000) (hB:B<=w.heap.size) :
 Cr P n l (.call ⟨.builtin .append,#[x,y],#[t,t]⟩) ty w (LF fun o w'=> ∃a2 c2,o = .slice a2 (xs++ys).length c2/\OwnQ rejShape w' (fun _=>False) B e (.slice a2 (xs++ys).length c2) (xs++ys)/\Fr (fun k=>(cP a xs.length c).ownBlock=some k) w w'/\(xs++ys=[]->a2=none/\c2=0)):=by
 by_cases b:ys=[]
 . obtain ⟨rfl,rfl⟩:=hyn b;subst b;rw [List.append_nil];obtain ⟨i,hi,hs⟩:=(T _ _ _ hE).info;have hun:=(T _ _ _ ht).under;have key:(Builtin.append_ #[t,t] ty #[.slice a xs.length c,.slice none 0 0]).run P w = .ok (.slice a xs.length c) w:=by
    obtain ⟨css,h1,-⟩:=hox.ex;exact run_append_owned_none (P:=P) w B t ty e i 4 hun hi _ xs.length css.flatten h1
   unfold Cr;intro act dst pos after g next Q ha hn _;have e1:(execOp act.eval ⟨dst,.call ⟨.builtin .append,#[x,y],#[t,t]⟩,ty,pos,after,g⟩).run P w = .ok (.value (.slice a xs.length c)) w:=by
    simp only [aX] at hy;simp only [execOp,resolve,invoke,builtin,bL,bW,Result.andThen_ok,List.map_toArray,List.map_cons,List.map_nil,ha.ev hx,ha.ev hy,key]
   unfold Oper.wp;rw [e1];exact hn _ _ ⟨a,c,rfl,hox,eG _ _,hxn⟩
 . obtain ⟨css,h1,h2,h3⟩:=hox.ex;obtain ⟨cys,k1,k2,k3⟩:=hoy.ex;have hpos:0<ys.length:=List.length_pos_iff.2 b;rcases k1.row with ⟨-,h0,-⟩|⟨g,cap,hv,-,-,hr⟩
   . omega
   simp only [bZ] at hv;obtain ⟨rfl,-,-⟩:=hv;have hone:cys.flatten.all Value.one=true:=by
    rw [cX];intro u hu;obtain ⟨cs,hcs,hu⟩:=List.mem_flatten.1 hu;obtain ⟨j,hj,rfl⟩:=List.mem_iff_getElem.1 hcs;have:=rejShape.one (k3 j ys[j] cys[j] (aY Ab) (aY hj));exact cX.1 this u hu
   have hd:=Er (P:=P) (n:=n) (l:=l) (ty:=ty) T Z ht hE hz hzl hby rfl hx hy h1 hr k1.1 hone Ab Ab hB;unfold Cr at hd ⊢;intro act dst pos after gd next Q ha hn f;refine hd act dst pos after gd next Q ha (fun v' w' hG=>?_) (fun w' hG=>hG.elim);obtain ⟨g1,g2,g',cap',rfl,g4⟩:=hG;refine hn _ w' ⟨some ⟨g',0,none⟩,cap',by rw [aU],⟨css++cys,by rw [List.flatten_append,aU];exact g1,by simp [h2,k2],fun j z ds hz hd=>?_⟩,g2,fun e=>by simp [b] at e⟩;by_cases hj:j<xs.length
   . rw [dD hj] at hz;rw [dD Ab] at hd;exact h3 j z ds hz hd
   . rw [List.getElem?_append_right Ab] at hz;rw [List.getElem?_append_right Ab,h2] at hd;exact k3 _ z ds hz hd
def DI (ps:List PD):List Int:=ps.flatMap fun p=>CG p.body.walk
def PG.errs (g:PG):List Int:=if g.flt=0 then DI g.procs++CG g.main.walk else []
def Qg {f:List PD} {j:Nat} (h:j<f.length):DI (f.take (j+1))=DI (f.take j)++CG (f[j]).body.walk:=by
 unfold DI;rw [bE h,List.flatMap_append];simp
def Mc (K:Nat) : ∀f:List PD,(∀p∈f,p.body.size<=K)->(DI f).length<=f.length*K
 | [],_=>by simp [DI]
 | p::r,h=>by
  have h1:=Mc K r (fun q E=>h q (by simp [E]));have F:=G8 p.body.walk;rw [H4] at F;have L:=h p Bd;have e:DI (p::r)=CG p.body.walk++DI r:=by simp [DI]
  rw [e,aU,aV,Nat.add_mul];omega
set_option maxHeartbeats 8000000 in
def Vs (g:PG) (ab:g.wf) (aj:g.ok=true) (S:nP) (va:oA) (vc:Nat) (pa:oA) (pc:Nat) (ma:oA) (mc:Nat) (w:wD) (V:g.sits S w va pa ma) (f:PDsC S w g.procs pa) (an:g.vars.length<=vc) :
 Calls prog 50 #[.agg (g.cells va vc pa pc ma mc).toArray] w (ChkR g.errs w):=by
 have HV:=bA (JJ ab aj);have HS:=bA (fun S va vc pa pc ma mc w V hp hv=>Qf g ab aj S va vc pa pc ma mc w V hp hv);obtain ⟨o1,o2,-,o4,o5⟩:=Ic aj;have f:=f.ltA;have V:=V.ltA;have X:=dI w;by_cases hf:g.flt=0
 . have he:g.errs=DI g.procs++CG g.main.walk:=AU hf;rw [he];rw [hf] at HS;have F:=V.main;obtain ⟨b1,-,b3⟩:=body_iff.1 o5;have HM:=bA (So (-1) g.main Ab (fun x hx=>by
    obtain ⟨h1,h2,h3⟩:=Mb b1 ab.main x hx;exact ⟨h1,h2,Ab⟩))
   refine Af func50 ntmps50 rfl rfl ?_;refine cS (eB [_,_,_,_,_,_] ?_);intro b1 w2 O x5 p6 z7;revert f V X F;refine eE x5 ?_;intro f V X F;refine eK ?_;refine cC rfl (HV.out _ _ _ _ _ _ _ _ Ag) ?_;rintro _ w9 ⟨⟨⟩,x8⟩;revert O f V X F;refine eY x8 ?_;intro bm O f V X F;refine eK ?_;refine eQ rfl (HS.out _ _ _ _ _ _ _ _ Ag Ag an) ?_;rintro _ bn ⟨bo,⟨bp,⟨⟨⟩,ar⟩⟩⟩;revert O f V X F;refine eY ar ?_;intro bq O f V X F;refine A2 rfl rfl rfl (rfl) (C1 Pz (A2 rfl rfl rfl (rfl) (C1 V5 (C1 (By rfl rfl rfl) (cT (Hj (As (Ai (cS (C1 Pa (cT ?_)))))))))));refine Aj (cS (C1 Pf (C1 (Pl O) (C1 Pz (C1 Mv (cT ?_))))));refine Ar ?_;refine AJ (ι:=Nat×oA×Nat) (fun y=>[(1,.pointer (some ⟨b1,0,none⟩)),(3,.slice y.2.1 (DI (g.procs.take y.1)).length y.2.2),(16,.slice pa g.procs.length pc),(17,.int .i64 g.procs.length),(18,.int .i64 y.1)])
    (fun y w'=>y.1<=g.procs.length/\OwnQ rejShape w' (fun _=>False) (w.heap.size+1) 207 (.slice y.2.1 (DI (g.procs.take y.1)).length y.2.2) (DI (g.procs.take y.1))/\(DI (g.procs.take y.1)=[]->y.2.1=none/\y.2.2=0)/\Blk w' b1 (g.cells va vc pa pc ma mc)/\PDsC (· < w.heap.size) w' g.procs pa/\g.main.sits (· < w.heap.size) w' ma/\Ext w w')
    (fun y=>g.procs.length-y.1) (0,none,0) sB ⟨bI _,OwnQ.nil,fun _=>⟨rfl,rfl⟩,O,f,F,X⟩ ?_
   clear O f F X V;rintro ⟨j,ra,rc⟩ w3 ⟨hj,L,ac,O,f,F,X⟩;simp only at hj L ac O f F X;have N : ∀q,(cP ra (DI (g.procs.take j)).length rc).ownBlock=some q->w.heap.size+1<=q/\q<w3.heap.size:=fun q hq=>⟨L.ge hq,L.lt hq⟩
   have au:=Mc 2000 (g.procs.take j) (fun p hp=>(body_iff.1 (FC (o4 p (List.mem_of_mem_take hp))).2.2.2).2.2);have av:(g.procs.take j).length*2000<=64*2000:=Nat.mul_le_mul_right _ (by simp;omega);have br:=X.size;have bs:=O.lt;by_cases aa:j<g.procs.length
   . obtain ⟨kb,ko,rfl,kS,ae⟩:=f.get (by intro e;rw [e] at aa;simp at aa);obtain ⟨qa,qc,ba,bc,r0,-,Y,-⟩:=ae j g.procs[j] (aY aa);obtain ⟨d1,-,d3⟩:=body_iff.1 (FC (o4 _ (bD aa))).2.2.2;have aw:=Qg aa;have ak:=G8 (g.procs[j]).body.walk;rw [H4] at ak;have HC:=bA (So j (g.procs[j]).body Ab (fun x hx=>by
      obtain ⟨h1,h2,h3⟩:=Mb d1 (ab.procs _ (bD aa)).body x hx;exact ⟨h1,h2,Ab⟩))
     clear ae d1;generalize g.procs[j]=x at *;generalize CG x.body.walk=ys at *;generalize hE:DI (g.procs.take j)=E at *
     focus
      refine eK ?_;refine eA [_,_,_,_,_,_] ?_;intro bt bu ax ay bv bw;revert F X O f r0 Y L;refine eE ay ?_;intro F X O f r0 Y L;refine C1 Pa (eS [_,_,_,_,_,_] ax ?_);intro bx Z af a2;revert F X O f r0 Y;refine eF af ?_;intro F X O f r0 Y;have L:=OwnQ.fr L af (fun k hk=>⟨id,fun e=>by have:=N _ e;omega⟩);refine eK ?_;refine eQ rfl (HC.out _ _ _ _ Ag) ?_;rintro _ a3 ⟨a4,⟨a5,⟨⟨⟩,⟨a6,⟨ao,a7⟩⟩⟩⟩⟩;revert Z F X O f r0 Y L;refine eY ao ?_;intro a8 Z F X O f r0 Y L;refine Au (JK Ac CM rfl rfl rfl rfl Bl rfl rfl Ag Ag ac Ag Ab Ab) rfl ?_ aFh;rintro _ a9 ⟨al,⟨am,⟨rfl,⟨ag,⟨M,ah⟩⟩⟩⟩⟩;have bb:=M.size;have Z:=dQ Z M (fun h=>by have:=N _ h;omega);have F:=eO F M (fun b hb h=>by have:=N _ h;omega);have X:=eX X M (fun k hk=>by have:=N _ hk;omega);have O:=dQ O M (fun h=>by have:=N _ h;omega);have f:=PDsC.fr f M (fun b hb h=>by have:=N _ h;omega);have Y:=eO Y M (fun b hb h=>by have:=N _ h;omega);clear L M;refine C1 Pa (Ah (Ae (Ai (Ad (C1 V7 (C1 Mv (Ah ?_)))))));rotate_left
     rw [<-aw] at ag ah ⊢;exact Aw (j+1,al,am) sB ⟨by simp only;omega,ag,ah,O,f,F,X⟩ (by simp only;omega)
   . obtain rfl:j=g.procs.length:=by omega
     rw [bH] at L ac au N;refine CW.sub (m:=[(1,.pointer (some ⟨b1,0,none⟩)),(3,.slice ra (DI g.procs).length rc),(16,.slice pa g.procs.length pc),(17,.int .i64 g.procs.length),(18,.int .i64 g.procs.length)]) ?_ (Ak rfl (AW rfl (by simp only [bH]) (Ak rfl (Ak rfl (Ak rfl AY)))));have ak:=G8 g.main.walk;rw [H4] at ak;rw [bH] at av;generalize CG g.main.walk=ys at *;generalize hE:DI g.procs=E at *;rw [hE] at *;refine eK ?_;refine eQ rfl (HM.out _ _ _ _ Ag) ?_;rintro _ bz ⟨b0,⟨b2,⟨⟨⟩,⟨b4,⟨az,b5⟩⟩⟩⟩⟩;revert O f F X L;refine eY az ?_;intro b6 O f F X L;refine Au (JK Ac CM rfl rfl rfl rfl Bl rfl rfl Ag Ag ac Ag Ab Ab) rfl ?_ aFh;rintro _ bd ⟨be,⟨bf,⟨rfl,⟨ai,⟨U,ap⟩⟩⟩⟩⟩;have bg:=U.size;have O:=dQ O U (fun h=>by have:=N _ h;omega);have f:=PDsC.fr f U (fun b hb h=>by have:=N _ h;omega);have F:=eO F U (fun b hb h=>by have:=N _ h;omega);have X:=eX X U (fun k hk=>by have:=N _ hk;omega);clear L U;refine eK ?_;refine xR ?_;exact ⟨_,_,rfl,OwnQ.below ai (fun k hk=>by have:=ai.ge hk;omega),X,ap⟩
 . have he:g.errs=[]:=AE hf;rw [he];refine Af func50 ntmps50 rfl rfl ?_;refine cS (eB [_,_,_,_,_,_] ?_);intro b7 b8 ad a0 b9 ca;revert f V X;refine eE a0 ?_;intro f V X;refine eK ?_;refine cC rfl (HV.out _ _ _ _ _ _ _ _ Ag) ?_;rintro _ cb ⟨⟨⟩,a1⟩;revert ad f V X;refine eY a1 ?_;intro bh ad f V X;refine eK ?_;refine eQ rfl (HS.out _ _ _ _ _ _ _ _ Ag Ag an) ?_;rintro _ bi ⟨bj,⟨bk,⟨⟨⟩,aq⟩⟩⟩;revert ad f V X;refine eY aq ?_;intro bl ad f V X;refine eK ?_;refine xR ?_;all_goals exact ⟨none,0,rfl,OwnQ.nil,X,fun _=>⟨rfl,rfl⟩⟩
def PG.acc (g:PG):Prop:=g.ok=true/\g.flt=0/\g.errs=[]
def Zv (g:PG) (F:g.wf) (S:nP) (va:oA) (vc:Nat) (O:oA) (pc:Nat) (ma:oA) (mc:Nat) (w:wD) (E:g.sits S w va O ma) (f:PDsC S w g.procs O) (U:g.vars.length<=vc) :
 Calls prog 25 #[.agg (g.cells va vc O pc ma mc).toArray] w fun e w'=> ∃q,e = .returned (.bool q)/\(q=true↔g.acc)/\Ext w w':=by
 have X:=dI w;have E:=E.ltA;have f:=f.ltA;cases hok:g.ok
 . have V:=bA (JJ F hok);have hn : ¬g.acc:=fun h=>by rw [h.1] at hok;cases hok
   clear F hok f;refine Af func25 ntmps25 rfl rfl ?_;refine cS (eB [_,_,_,_,_,_] ?_);intro b1 w2 h4 x5 p6 z7;revert X E;refine eE x5 ?_;intro X E;refine eK ?_;refine cC rfl (V.out _ _ _ _ _ _ _ _ Ag) ?_;rintro _ w9 ⟨⟨⟩,x8⟩;revert h4 X E;refine eY x8 ?_;intro be h4 X E;refine eK ?_;refine xR ?_;exact ⟨_,rfl,⟨(fun h=>nomatch h),fun h=>absurd h hn⟩,X⟩
 have V:=bA (JJ F hok);have HC:=bA (fun w1 h1 h2=>Qf g F hok (· < w.heap.size) va vc O pc ma mc w1 h1 h2 U);have HE:=bA (fun w1 h1 h2=>Vs g F hok (· < w.heap.size) va vc O pc ma mc w1 h1 h2 U);by_cases Y:g.flt=0
 . rw [Y] at HC;have hq:g.acc↔g.errs.length=0:=⟨fun h=>by rw [h.2.2];rfl,fun h=>⟨hok,Y,List.eq_nil_of_length_eq_zero h⟩⟩;rw [hq];generalize g.errs=xs at *;clear F hok Y hq;by_cases hx:xs.length=0
   . refine Af func25 ntmps25 rfl rfl ?_;refine cS (eB [_,_,_,_,_,_] ?_);intro bf bg L ae bh bi;revert X E f;refine eE ae ?_;intro X E f;refine eK ?_;refine cC rfl (V.out _ _ _ _ _ _ _ _ Ag) ?_;rintro _ bj ⟨⟨⟩,af⟩;revert L X E f;refine eY af ?_;intro ak L X E f;refine eK ?_;refine eQ rfl (HC.out _ Ag Ag) ?_;rintro _ al ⟨am,⟨an,⟨⟨⟩,Z⟩⟩⟩;revert L X E f;refine eY Z ?_;intro ao L X E f;refine eK ?_;refine eQ rfl (HE.out _ Ag Ag) ?_;rintro _ ap ⟨aq,⟨ar,⟨⟨⟩,⟨au,⟨aa,av⟩⟩⟩⟩⟩;revert L X E f;refine eY aa ?_;intro aw L X E f;refine eK ?_;refine xR ?_;exact ⟨_,rfl,by simp [hx],X⟩
   . refine Af func25 ntmps25 rfl rfl ?_;refine cS (eB [_,_,_,_,_,_] ?_);intro bk bl M ag bm bn;revert X E f;refine eE ag ?_;intro X E f;refine eK ?_;refine cC rfl (V.out _ _ _ _ _ _ _ _ Ag) ?_;rintro _ bo ⟨⟨⟩,ah⟩;revert M X E f;refine eY ah ?_;intro ax M X E f;refine eK ?_;refine eQ rfl (HC.out _ Ag Ag) ?_;rintro _ ay ⟨az,⟨a0,⟨⟨⟩,ab⟩⟩⟩;revert M X E f;refine eY ab ?_;intro a1 M X E f;refine eK ?_;refine eQ rfl (HE.out _ Ag Ag) ?_;rintro _ a2 ⟨a3,⟨a4,⟨⟨⟩,⟨a5,⟨ac,a6⟩⟩⟩⟩⟩;revert M X E f;refine eY ac ?_;intro a7 M X E f;refine eK ?_;refine xR ?_;exact ⟨_,rfl,by simp [hx],X⟩
 . have hn : ¬g.acc:=fun h=>Y h.2.1
   have a8:0<g.flt:=Nat.pos_of_ne_zero Y;generalize g.flt=nf at *;clear F hok;refine Af func25 ntmps25 rfl rfl ?_;refine cS (eB [_,_,_,_,_,_] ?_);intro bp bq N ai br bs;revert X E f;refine eE ai ?_;intro X E f;refine eK ?_;refine cC rfl (V.out _ _ _ _ _ _ _ _ Ag) ?_;rintro _ bt ⟨⟨⟩,aj⟩;revert N X E f;refine eY aj ?_;intro a9 N X E f;refine eK ?_;refine eQ rfl (HC.out _ Ag Ag) ?_;rintro _ ba ⟨bb,⟨bc,⟨⟨⟩,ad⟩⟩⟩;revert N X E f;refine eY ad ?_;intro bd N X E f;refine eK ?_;refine xR ?_;exact ⟨_,rfl,⟨(fun h=>nomatch h),fun h=>absurd h hn⟩,X⟩
structure EX where
 name:lB
 points:Int
 fuel:Int
 box:BoxV
 g:PG
def EX.cells (e:EX) (va:oA) (vc:Nat) (pa:oA) (pc:Nat) (ma:oA) (mc:Nat):lV:=
 [str e.name,.int .i64 e.points,.int .i64 e.fuel,.int .i64 e.box.v,.int .i64 e.box.l,.int .i64 e.box.i,.slice va e.g.vars.length vc,.slice pa e.g.procs.length pc,.int .u8 e.g.main.kind,.int .i64 e.g.main.num,str e.g.main.name,.slice ma e.g.main.kids.length mc]
def PG.pinv (g:PG):PG:=⟨g.vars,g.procs,g.main.inv false⟩
def EX.num (e:EX):Prop:=A9 e.name=true/\(1<=e.points/\e.points<=1000)/\0<=e.fuel/\e.fuel<=1000000
instance (e:EX):Decidable e.num:=by unfold EX.num;infer_instance
instance (g:PG):Decidable g.acc:=by unfold PG.acc;infer_instance
def EX.valid (e:EX):Prop:=e.num/\e.g.acc/\e.g.pinv.acc/\(FN e.g.vars e.box).2=0/\(FN e.g.vars e.box).1<=65536
instance (e:EX):Decidable e.valid:=by unfold EX.valid;infer_instance
def PG.pinv_eq (g:PG):g.pinv=g.inv id false:=(PG.inv_id false g).symm
def PG.pinv_wf {g:PG} (h:g.wf) (f:g.ok=true):g.pinv.wf:=by
 rw [PG.pinv_eq];exact TN false h f (fun p E=>(h.procs p E).body)
def Nz:lB->Bool
 | []=>false
 | c::r=>Cz c&&(c::r).all Cs
def Md (c:UInt8) (r:lB):Nz (c::r)=(Cz c&&(c::r).all Cs):=rfl
def Ie {α:Type} (p:α->Bool) : ∀l:List α,((l.takeWhile p).length==l.length)=l.all p
 | []=>rfl
 | x::l=>by
  rw [List.takeWhile_cons,List.all_cons];cases hx:p x with
  | true=>
   have:=Ie p l;simpa using this
  | false=>simp
def Qh (s:lB):A9 s=(Nz s&&decide (s.length<=16) && !E6 s):=by
 cases s with
 | nil=>rfl
 | cons c r=>
  by_cases f:Cz c=true
  . have e:AO (c::r)=(1,GX Cs (c::r)):=by simp only [AO,AU f]
    have h:(GX Cs (c::r)==(c::r).length)=(c::r).all Cs:=Ie _ _;unfold A9;rw [Md,e,f];simp only [h,List.isEmpty_cons,Bool.not_false,Bool.true_and,BEq.rfl,Bool.and_true];cases (c::r).all Cs<;>cases decide ((c::r).length<=16)<;>rfl
  . have e:((AO (c::r)).1==1)=false:=by
     simp only [AO,AE f];split
     . rfl
     . split
       . rfl
       . split<;>rfl
    unfold A9;rw [Md,e,Bool.eq_false_iff.2 f];simp
def Qi (w:wD):Calls prog 100 #[] w fun e w'=> ∃b,e = .returned (.slice (some ⟨b,0,none⟩) 23 23)/\Row w' ⟨b,0,none⟩ (keywords.map str)/\Ext w w':=by
 have X:=dI w;refine Af (args:=[]) func100 ntmps100 rfl rfl ?_;refine eK ?_;refine Au (xS [_,_,_,_,_,_,_,_,_,_,_,_,_,_,_,_,_,_,_,_,_,_,_]) rfl ?_ aFh;rintro _ E ⟨F,rfl,f,t4⟩;have L:=f.blk;have h:=f.ext;have M:=f.pos;have N:=f.size;have X:=X.ext h;refine eK ?_;refine xR ?_;exact ⟨_,rfl,eC Ag,X⟩
def signs2:List lB:=[[60,61,62],[58,61],[43,61],[45,61],[94,61],[61,61],[33,61],[60,61],[62,61],[38,38],[124,124],[43],[45],[42],[47],[37],[38],[124],[94],[33],[61],[60],[62],[40],[41],[123],[125],[91],[93],[59],[44]]
def Vt (w:wD):Calls prog 145 #[] w fun e w'=> ∃b,e = .returned (.slice (some ⟨b,0,none⟩) 31 31)/\Row w' ⟨b,0,none⟩ (signs2.map str)/\Ext w w':=by
 have X:=dI w;refine Af (args:=[]) func145 ntmps145 rfl rfl ?_;refine eK ?_;refine Au (xS [_,_,_,_,_,_,_,_,_,_,_,_,_,_,_,_,_,_,_,_,_,_,_,_,_,_,_,_,_,_,_]) rfl ?_ aFh;rintro _ E ⟨F,rfl,f,t4⟩;have L:=f.blk;have h:=f.ext;have M:=f.pos;have N:=f.size;have X:=X.ext h;refine eK ?_;refine xR ?_;exact ⟨_,rfl,eC Ag,X⟩
def Row.nthR {w:wD} {b j:Nat} {l:List lB} (h:Row w ⟨b,0,none⟩ (l.map str)) (f:j<l.length):Row w ⟨b,0+j*1,none⟩ [str l[j]]:=by
 have h1:=h.sub j 1;have e:((l.map str).drop j).take 1=[str l[j]]:=by
  rw [cW (by simpa using f)];simp
 rw [e] at h1;rw [Nat.mul_one];exact h1
def Yd (l:List lB) (Y:l.length<=1000000) (s:lB) (b c:Nat) (w:wD) (h:Row w ⟨b,0,none⟩ (l.map str)):Calls prog 99 #[.slice (some ⟨b,0,none⟩) l.length c,str s] w fun e w'=>e = .returned (.bool (l.contains s))/\Ext w w':=by
 have X:=dI w;refine Af func99 ntmps99 rfl rfl ?_;refine cS (C1 Pa (cT (Aj (cS (C1 Pa (cT ?_))))));refine Ar ?_;refine AJ (ι:=Nat) (fun j=>[(0,.slice (some ⟨b,0,none⟩) l.length c),(1,str s),(5,.int .i64 j)]) (fun j w'=>j<=l.length/\(∀i (E:i<l.length),i<j->l[i]≠s)/\Row w' ⟨b,0,none⟩ (l.map str)/\Ext w w') (fun j=>l.length-j) 0 sB ⟨bI _,fun i _ h=>by omega,h,X⟩ ?_;clear h X;rintro j Z ⟨hj,f,h,X⟩;have F:=bA f;clear f;by_cases L:j<l.length
 . have O:=Row.nthR h L;by_cases M:l[j]=s
   . rw [show l.contains s=true from List.contains_iff_mem.2 (by rw [<-M];exact bD _)];generalize l[j]=t at *;refine eK ?_;refine xR ?_;exact ⟨rfl,X⟩
   . have U:=bA (fun (i:Nat) (E:i<l.length) (h:i<j+1)=>if h2:i<j then F.out i E h2 else (by
      obtain rfl:i=j:=by omega
      exact M:l[i]≠s))
     clear F;generalize l[j]=t at *;refine Aj (cS (C1 Mv (C1 Mv (C1 Pz (C1 V3 (cT (S1 (As (Ai (Aj (Ar ?_)))))))))));refine cS (C1 Mv (C1 Mv (C1 Pi (C1 (Zj O) (C1 Mv (C1 V8 (cT (N0 (As (Ae (Ai ?_)))))))))));refine Ad (C1 Mv (C1 V7 (C1 Pa (Ah ?_))));exact Aw (j+1) sB ⟨Ab,U.out,Ag,X⟩ Ab
 . have N:l.contains s=false:=by
    cases hh:l.contains s with
    | false=>rfl
    | true=>
     obtain ⟨i,E,V⟩:=List.mem_iff_getElem.1 (List.contains_iff_mem.1 hh);exact absurd V (F.out i E Ab)
   rw [N];clear F N;refine eK ?_;refine xR ?_;exact ⟨rfl,X⟩
def NA (x:UInt8) (w:wD):Calls prog 143 #[.int .u8 x.toNat] w fun e w'=>e = .returned (.bool (Cz x))/\Ext w w':=by
 have X:=dI w;have E:=x.toNat_lt;by_cases h:97<=x.toNat/\x.toNat<=122
 . obtain ⟨h1,F⟩:=h;rw [show Cz x=true from by simp [Cz,h1,F]];refine Af func143 ntmps143 rfl rfl ?_;refine eK ?_;refine xR ?_;exact ⟨AI (decide_eq_true Ab),X⟩
 . rw [show Cz x=false from by simp only [Cz,Bool.and_eq_false_iff,decide_eq_false_iff_not];omega];refine Af func143 ntmps143 rfl rfl ?_
   focus
    refine eK ?_;refine Cm rfl rfl rfl (fun f=>?_) (fun f=>?_);refine eK ?_;refine xR ?_;rotate_left;refine eK ?_;refine xR ?_;rotate_left
   all_goals first|exact ⟨rfl,X⟩|exact ⟨AI (decide_eq_false Ab),X⟩
def Vu (x:UInt8) (w:wD):Calls prog 144 #[.int .u8 x.toNat] w fun e w'=>e = .returned (.bool (Cw x))/\Ext w w':=by
 have X:=dI w;have E:=x.toNat_lt;by_cases h:48<=x.toNat/\x.toNat<=57
 . obtain ⟨h1,F⟩:=h;rw [show Cw x=true from by simp [Cw,h1,F]];refine Af func144 ntmps144 rfl rfl ?_;refine eK ?_;refine xR ?_;exact ⟨AI (decide_eq_true Ab),X⟩
 . rw [show Cw x=false from by simp only [Cw,Bool.and_eq_false_iff,decide_eq_false_iff_not];omega];refine Af func144 ntmps144 rfl rfl ?_
   focus
    refine eK ?_;refine Cm rfl rfl rfl (fun f=>?_) (fun f=>?_);refine eK ?_;refine xR ?_;rotate_left;refine eK ?_;refine xR ?_;rotate_left
   all_goals first|exact ⟨rfl,X⟩|exact ⟨AI (decide_eq_false Ab),X⟩
def Zw (s:lB) (w:wD):Ending->wD->Prop:=fun e w'=> ∃k:Int,e = .returned (.int .u8 k)/\(Nz s=true->k=1)/\(Nz s=false->k≠1)/\Ext w w'
def Vv {s:lB} {j:Nat} (h:j<s.length):(s.take (j+1)).all Cs=((s.take j).all Cs&&Cs s[j]):=by
 rw [bE h,List.all_append];simp
def Vw (s:lB) (hs:s.length<=9223372036854775807) (w:wD):Calls prog 98 #[str s] w (Zw s w):=by
 have X:=dI w
 cases hc:s with
 | nil=>
  refine Af func98 ntmps98 rfl rfl ?_
  refine eK ?_;refine Be rfl rfl ?_
  exact ⟨_,rfl,(fun h=>by cases h),(fun _=>by decide),X⟩
 | cons c r=>
 have h0:s[0]? = some c:=by rw [hc];rfl
 have hpos:0<s.length:=by rw [hc];simp
 have hne:s≠[]:=by rw [hc];simp
 have hw:Nz s=(Cz c&&s.all Cs):=by rw [hc];rfl
 rw [<-hc]
 have HW:=bA hw;clear hc hw;have HL:=bA (fun w1=>NA c w1);have HS:=bA (fun w1 b h=>Yd signs2 (by decide) s b 31 w1 h);refine Af func98 ntmps98 rfl rfl ?_
 refine eK ?_;refine AC (fun wz=>Ext w wz) 9 (.pure 0 (.pure 1 (.pure 3 (.pure 4 (.pure 5 (.fork 2 (.pure 6 (.pure 7 (.pure 8 .tail))) .none)))))) mixed (by kernel_rfl) (Aa An) ?_;intro wa1 xa2 _;have qsa3:(fun wz=>Ext w wz) wa1:=xa2;simp only at qsa3;have za4:=xa2.size;replace X:=X.ext xa2;refine ⟨qsa3,?_⟩;refine Tq rfl Mv (Tq rfl (FE Ac rfl rfl rfl (by omega) ‹_›) (Tq rfl Mv (Tq rfl (FE Ac rfl rfl rfl (by omega) ‹_›) (Tq rfl V1 ?_))));refine A1 rfl (Bb (by kernel_rfl) rfl (HL.out _) (fun _ _ h=>⟨_,h.1⟩)) rfl ?_ (fun _ h=>h) A7;rintro _ wa7 ⟨⟨⟩,xa6⟩;revert qsa3 X;refine eY xa6 ?_;intro za8 qsa3 X;refine ⟨qsa3,?_⟩;refine Tq rfl Pa (Tq rfl Pa (Tq rfl Pa ?_));refine AF rfl (C1 Pa (cT (Aj (cS (C1 Pa (cT ?_))))))
 refine Ar ?_;refine AJ (ι:=Nat×Bool×Bool×Bool×Bool) (fun x=>[(0,str s),(3,.bool x.2.1),(4,.bool x.2.2.1),(5,.bool x.2.2.2.1),(6,.bool x.2.2.2.2),(7,.int .i64 x.1)])
  (fun x w'=>x.1<=s.length/\x.2.1=(Cz c&&(s.take x.1).all Cs)/\Ext w w') (fun x=>s.length-x.1) (0,Cz c,true,true,decide (c.toNat=35)) (by (refine Ak rfl ?_;refine Ak rfl ?_;refine Ak rfl ?_;refine Ak rfl ?_;refine AW rfl (by go_num) ?_;refine Ak rfl ?_;exact AY)) ⟨bI _,by simp,X⟩ ?_
 clear X;rintro ⟨j,b3,b4,b5,b6⟩ w1 ⟨hj,hb,X⟩;simp only at hj hb;refine CW.sub (m:=[(0,str s),(3,.bool b3),(4,.bool b4),(5,.bool b5),(6,.bool b6),(7,.int .i64 j)]) ?_ sB
 by_cases hlt:j<s.length
 . have hix:s[j]? = some s[j]:=aY hlt
   have hnx:(b3&&Cs s[j])=(Cz c&&(s.take (j+1)).all Cs):=by rw [hb,Vv hlt,Bool.and_assoc]
   clear hb HW HS
   generalize s[j]=x at *
   have hx8:=x.toNat_lt;have HLx:=bA (fun w1=>NA x w1);have HDx:=bA (fun w1=>Vu x w1);have HWx:=bA (show Cs x=(Cz x||Cw x) from rfl)
   generalize Cs x=wx at *
   generalize Cz x=lx at *
   generalize Cw x=dx at *
   refine eK ?_;refine C1 (FE Ac rfl rfl rfl (by omega) ‹_›) (C1 Pa (cT ?_))
   refine Fu (ι:=Unit) (fun _=>[(0,str s),(3,.bool (b3&&wx)),(4,.bool b4),(5,.bool b5),(6,.bool b6),(7,.int .i64 j),(8,.int .u8 x.toNat)]) (fun _ w'=>Ext w w') ?_ ?_
   . focus
      refine Ad (C1 Mv (C1 Mv ?_));refine GR rfl rfl rfl (fun cc1=>?_) (fun cc1=>?_);refine A2 rfl rfl rfl (CI ‹_›) (C1 Mv (A2 rfl rfl rfl (CI ‹_›) (cC rfl (HLx.out _) ?_)));rintro _ wc3 ⟨⟨⟩,xc2⟩;have zc4:=xc2.size;replace X:=X.ext xc2;refine A2 rfl rfl rfl (CI ‹_›) (C1 Mv ?_);refine GR rfl rfl rfl (fun cc5=>?_) (fun cc5=>?_);refine AP rfl rfl rfl (Kx ‹_›) rfl (AP rfl rfl rfl (Kx ‹_›) rfl (A2 rfl rfl rfl (CI ‹_›) (C1 (Bc rfl rfl ‹_›) (C1 (Bc rfl rfl ‹_›) (C1 Pa (Ah ?_))))));rotate_left;refine A2 rfl rfl rfl (Ky ‹_›) (C1 Mv (A2 rfl rfl rfl (Ky ‹_›) (cC rfl (HDx.out _) ?_)));rintro _ wc7 ⟨⟨⟩,xc6⟩;have zc8:=xc6.size;replace X:=X.ext xc6;refine A2 rfl rfl rfl (CI ‹_›) (C1 (By rfl rfl ‹_›) (C1 (Bc rfl rfl ‹_›) (C1 Pa (Ah ?_))));rotate_left;refine AP rfl rfl rfl (D7 ‹_›) rfl (AP rfl rfl rfl (D7 ‹_›) rfl (AP rfl rfl rfl (D7 ‹_›) rfl (Fe rfl rfl rfl rfl (Fe rfl rfl rfl rfl (AP rfl rfl rfl (D7 ‹_›) rfl (C1 (By rfl rfl ‹_›) (C1 Pa (Ah ?_))))))));rotate_left
     all_goals exact BL () (Ak rfl (AW rfl (congrArg dF (by rw [HWx.out];simp [*])) (Ak rfl (Ak rfl (Ak rfl (Ak rfl (Ak rfl AY))))))) X
   clear X HLx HWx;rintro-w2 X;refine Fu (ι:=Bool) (fun y=>[(0,str s),(3,.bool (b3&&wx)),(4,.bool y),(5,.bool b5),(6,.bool b6),(7,.int .i64 j),(8,.int .u8 x.toNat)]) (fun _ w'=>Ext w w') ?_ ?_
   . focus
      refine Ad (C1 Mv (C1 Mv ?_));refine GR rfl rfl rfl (fun cd1=>?_) (fun cd1=>?_);refine A2 rfl rfl rfl (CI ‹_›) (C1 Mv (A2 rfl rfl rfl (CI ‹_›) (cC rfl (HDx.out _) ?_)));rintro _ wd3 ⟨⟨⟩,xd2⟩;have zd4:=xd2.size;replace X:=X.ext xd2;refine C1 (Bc rfl rfl ‹_›) (C1 Pa (Ah ?_));rotate_left;refine AP rfl rfl rfl (D7 ‹_›) rfl (AP rfl rfl rfl (D7 ‹_›) rfl (C1 (By rfl rfl ‹_›) (C1 Pa (Ah ?_))));rotate_left
     all_goals exact BL _ sB X
   clear X HDx;rintro b4 w2 X;refine Fu (ι:=Bool) (fun y=>[(0,str s),(3,.bool (b3&&wx)),(4,.bool b4),(5,.bool y),(6,.bool b6),(7,.int .i64 j),(8,.int .u8 x.toNat)]) (fun _ w'=>Ext w w') ?_ ?_
   . focus
      refine Ad (C1 Mv (C1 Mv ?_));refine GR rfl rfl rfl (fun ce1=>?_) (fun ce1=>?_);refine A2 rfl rfl rfl (CI ‹_›) (C1 Mv (A2 rfl rfl rfl (CI ‹_›) (C1 V1 (A2 rfl rfl rfl (CI ‹_›) (C1 Mv ?_)))));refine Cm rfl rfl rfl (fun ce2=>?_) (fun ce2=>?_);refine N1 (N1 (A2 rfl rfl rfl (CI ‹_›) (C1 SZ (A2 rfl rfl rfl (CI ‹_›) (C1 Mv (AP rfl rfl rfl (rfl) rfl (AP rfl rfl rfl (rfl) rfl (A2 rfl rfl rfl (CI ‹_›) (C1 (Bc rfl rfl rfl) (A2 rfl rfl rfl (CI ‹_›) (C1 Mv ?_)))))))))));refine AP rfl rfl rfl (rfl) rfl (AP rfl rfl rfl (rfl) rfl (A2 rfl rfl rfl (CI ‹_›) (C1 (Bc rfl rfl rfl) (C1 (Bc rfl rfl ‹_›) (C1 Pa (Ah ?_))))));rotate_left;refine S3 (C1 Mv (S3 (C1 V1 (A2 rfl rfl rfl (CI ‹_›) (C1 S0 (A2 rfl rfl rfl (CI ‹_›) (C1 Mv ?_)))))));refine Cm rfl rfl rfl (fun ce3=>?_) (fun ce3=>?_);refine N1 (N1 (A2 rfl rfl rfl (CI ‹_›) (C1 SZ (A2 rfl rfl rfl (CI ‹_›) (C1 Mv (AP rfl rfl rfl (rfl) rfl (AP rfl rfl rfl (rfl) rfl (A2 rfl rfl rfl (CI ‹_›) (C1 (Bc rfl rfl rfl) (C1 (Bc rfl rfl ‹_›) (C1 Pa ?_)))))))))));refine Ah ?_;rotate_left;refine S3 (C1 Mv (S3 (C1 V1 (A2 rfl rfl rfl (CI ‹_›) (C1 S0 (A2 rfl rfl rfl (CI ‹_›) (C1 Mv ?_)))))))
      refine Cm rfl rfl rfl (fun ce4=>?_) (fun ce4=>?_);refine N1 (N1 (A2 rfl rfl rfl (CI ‹_›) (C1 SZ (C1 (Bc rfl rfl ‹_›) (C1 Pa (Ah ?_))))));rotate_left;refine S3 (C1 Mv (S3 (C1 V1 (A2 rfl rfl rfl (CI ‹_›) (C1 S0 (C1 (Bc rfl rfl ‹_›) (C1 Pa (Ah ?_))))))));rotate_left;refine AP rfl rfl rfl (D7 ‹_›) rfl (AP rfl rfl rfl (D7 ‹_›) rfl (AP rfl rfl rfl (D7 ‹_›) rfl (Fe rfl rfl rfl rfl (Fe rfl rfl rfl rfl (AP rfl rfl rfl (D7 ‹_›) rfl (AP rfl rfl rfl (D7 ‹_›) rfl (Fe rfl rfl rfl rfl (Fe rfl rfl rfl rfl (AP rfl rfl rfl (D7 ‹_›) rfl (AP rfl rfl rfl (D7 ‹_›) rfl (Fe rfl rfl rfl rfl ?_)))))))))));refine Fe rfl rfl rfl rfl (AP rfl rfl rfl (D7 ‹_›) rfl (C1 (By rfl rfl ‹_›) (C1 Pa (Ah ?_))));rotate_left
     all_goals exact BL _ sB X
   clear X;rintro b5 w2 X
   focus
    refine Ad (C1 Mv (C1 Mv ?_));refine GR rfl rfl rfl (fun cf1=>?_) (fun cf1=>?_);refine A2 rfl rfl rfl (CI ‹_›) (C1 Mv (A2 rfl rfl rfl (CI ‹_›) (C1 V2 (C1 (Bc rfl rfl ‹_›) (C1 Pa (Ah (Ae (Ai (Ad (C1 Mv (C1 V7 ?_)))))))))));refine C1 Pa (Ah ?_);rotate_left;refine AP rfl rfl rfl (D7 ‹_›) rfl (AP rfl rfl rfl (D7 ‹_›) rfl (C1 (By rfl rfl ‹_›) (C1 Pa (Ah (Ae (Ai (Ad (C1 Mv (C1 V7 (C1 Pa (Ah ?_)))))))))));rotate_left
   all_goals exact Aw (j+1,b3&&wx,b4,b5,_) (by (repeat (first|exact AY|refine Ak rfl ?_|refine AW rfl (by go_num) ?_))) ⟨by (try dsimp only);omega,hnx,X⟩ (by (try dsimp only);omega)
 . obtain rfl:j=s.length:=by omega
   rw [bH,<-HW.out] at hb;clear HW;subst hb
   focus
    refine Aj (cS (C1 Mv (C1 Mv (C1 Py (C1 V3 (cT (C9 (CB (AG (AG (A8 ?_)))))))))));refine Ai (Aj (cS (C1 Mv (cT ?_))));refine CV rfl (fun cg1=>?_) (fun cg1=>?_);refine eK ?_;refine Be rfl rfl ?_;rotate_left;refine As (Ai (Aj (cS (C1 Mv (cT ?_)))));refine CV rfl (fun cg2=>?_) (fun cg2=>?_);refine eK ?_;refine Be rfl rfl ?_;rotate_left;refine eK ?_;refine Au (Bb (by kernel_rfl) rfl (Vt _) (fun _ _ ⟨_,h⟩=>⟨_,h.1⟩)) rfl ?_ (fun _ h=>h);rintro _ wg6 ⟨bg3,⟨⟨⟩,⟨hg4,xg5⟩⟩⟩;have zg7:=xg5.size;replace X:=X.ext xg5;refine C1 Mv (cC rfl (HS.out _ _ ‹_›) ?_);rintro _ wg9 ⟨⟨⟩,xg8⟩;revert hg4 X;refine eY xg8 ?_;intro zg10 hg4 X;refine cT ?_;refine CV rfl (fun cg11=>?_) (fun cg11=>?_);refine eK ?_;refine Be rfl rfl ?_;rotate_left;refine As (Ai (Aj (cS (C1 Mv (cT ?_)))));refine CV rfl (fun cg12=>?_) (fun cg12=>?_);refine eK ?_;refine Be rfl rfl ?_;rotate_left;refine As (Ai (Aj (cS (C1 Mv (cT ?_)))));refine CV rfl (fun cg13=>?_) (fun cg13=>?_);refine eK ?_;refine Be rfl rfl ?_;rotate_left;refine eK ?_;refine Be rfl rfl ?_;rotate_left
   all_goals first|exact ⟨_,rfl,(fun _=>rfl),(fun h=>by simp_all),X⟩|exact ⟨_,rfl,(fun h=>by simp_all),(fun _=>by decide),X⟩
def Xn (s:lB) (hs:s.length<=9223372036854775807) (w:wD):Calls prog 56 #[str s] w fun e w'=>e = .returned (.bool (A9 s))/\Ext w w':=by
 have X:=dI w;rw [Qh];have N:=Vw s hs;cases hw:Nz s with
 | false=>
  have O:Hid (∀f,Calls prog 98 #[str s] f fun e w'=> ∃k:Int,e = .returned (.int .u8 k)/\k≠1/\Ext f w'):=bA fun f=>(N f).mono fun e w' ⟨k,h1,_,U,h3⟩=>⟨k,h1,U hw,h3⟩
  clear N hw;refine Af func56 ntmps56 rfl rfl ?_;refine eK ?_;refine Au (Bb Bl rfl (O.out _) (fun _ _ ⟨_,h⟩=>⟨_,h.1⟩)) rfl ?_ aFh;rintro _ w4 ⟨k1,⟨⟨⟩,⟨U,Y⟩⟩⟩;have z5:=Y.size;have X:=X.ext Y;refine eK ?_;refine xR ?_;exact ⟨rfl,X⟩
 | true=>
  have O:Hid (∀f,Calls prog 98 #[str s] f fun e w'=>e = .returned (.int .u8 1)/\Ext f w'):=bA fun f=>(N f).mono fun e w' ⟨k,h1,U,_,h3⟩=>⟨by rw [h1,U hw],h3⟩
  have HI:=bA (fun f b h=>Yd keywords Az s b 23 f h);clear N hw;rw [show E6 s=keywords.contains s from rfl];generalize keywords.contains s=q at *;by_cases Z:s.length<=16
  . rw [decide_eq_true Z];simp only [Bool.true_and];refine Af func56 ntmps56 rfl rfl ?_;refine eK ?_;refine cC rfl (O.out _) ?_;rintro _ ac ⟨⟨⟩,E⟩;have ad:=E.size;have X:=X.ext E;refine eK ?_;refine Au (Bb Bl rfl (Qi _) (fun _ _ ⟨_,h⟩=>⟨_,h.1⟩)) rfl ?_ aFh;rintro _ ae ⟨af,⟨⟨⟩,⟨F,L⟩⟩⟩;have ag:=L.size;have X:=X.ext L;refine eK ?_;refine cC rfl (HI.out _ _ Ag) ?_;rintro _ aa ⟨⟨⟩,V⟩;revert F X;refine eY V ?_;intro ab F X;refine eK ?_;refine xR ?_;all_goals exact ⟨by simp [*],X⟩
  . rw [decide_eq_false Z];refine Af func56 ntmps56 rfl rfl ?_;refine eK ?_;refine cC rfl (O.out _) ?_;rintro _ ah ⟨⟨⟩,M⟩;have ai:=M.size;have X:=X.ext M;refine eK ?_;refine xR ?_;exact ⟨rfl,X⟩
def CJ (k:Int):lB:=
 if k=44 then [112,117,115,104,32] else if k=45 then [112,111,112,32] else if k=46 then [114,101,97,100,32] else if k=47 then [117,110,114,101,97,100,32] else if k=48 then [119,114,105,116,101,32] else if k=49 then [117,110,119,114,105,116,101,32]
 else if k=50 then [99,97,108,108,32] else if k=51 then [117,110,99,97,108,108,32] else if k=52 then [105,102,32] else if k=53 then [102,114,111,109,32] else if k=54 then [108,111,99,97,108,32] else if k=55 then [108,111,99,97,108,32,115,116,97,99,107,32] else []
def EM (k:Int):lB:=if k=56 then [58,61] else if k=43 then [60,61,62] else BQ k
def BX (d:Nat):lB:=cB d 9
def C7:Bool->List Nd->lB
 | _,[]=>[]
 | first,t::r=>(if first then [] else [44,32])++t.text++C7 false r
mutual
def Nd.stmtT:Nd->Nat->lB
 | .mk k _ s l,d=>
  if k=40\/k=41\/k=42\/k=56\/k=43 then match l with|[x,y]=>x.text++[32]++EM k++[32]++y.text|_=>[]
  else if k=44\/k=45 then match l with|[x]=>CJ k++x.text++[44,32]++s|_=>[]
  else if 46<=k/\k<=49 then match l with|[x]=>CJ k++x.text|_=>[]
  else if k=50\/k=51 then CJ k++s++[40]++C7 true l++[41]
  else if k=52 then match l with|[x,y,z,u]=>CJ k++x.text++([32,123,10]++y.linesT (d+1)++BX d++[125])++[32,101,108,115,101]++([32,123,10]++z.linesT (d+1)++BX d++[125])++[32,102,105,32]++u.text|_=>[]
  else if k=53 then match l with|[x,y,z,u]=>CJ k++x.text++([32,123,10]++y.linesT (d+1)++BX d++[125])++[32,108,111,111,112]++([32,123,10]++z.linesT (d+1)++BX d++[125])++[32,117,110,116,105,108,32]++u.text|_=>[]
  else if k=54 then match l with|[x,y,z]=>CJ k++s++[32,61,32]++x.text++([32,123,10]++y.linesT (d+1)++BX d++[125])++[32,100,101,108,111,99,97,108,32]++z.text|_=>[]
  else if k=55 then match l with|[x]=>CJ k++s++([32,123,10]++x.linesT (d+1)++BX d++[125])|_=>[]
  else []
def Nd.linesT:Nd->Nat->lB
 | .mk _ _ _ l,d=>BV l d
def BV:List Nd->Nat->lB
 | [],_=>[]
 | t::r,d=>BX d++t.stmtT d++[59,10]++BV r d
end
def BB (t:Nd) (d:Nat):lB:=[32,123,10]++t.linesT (d+1)++BX d++[125]
end Bk
namespace Bk
open Go Go.RowKit Go.Proofs
structure BT (T:TypeId):Prop where
 lies:liesAt prog prog.depth T (2/prog.cellsOf T) 0 69 1=true
 ne:T≠5
def Ye:(prog.info? 69).map (·.size)=some 2:=by kernel_rfl
def infoByte:(prog.info? 5).map (fun i=>(i.zero,i.size,i.bytes))=some (some (.int .u8 0),1,1):=by kernel_rfl
def Vx:prog.underlying 66=some (.pointer 69):=by kernel_rfl
def Sy:prog.underlying 170=some .unsafePointer:=by kernel_rfl
def Vy:prog.underlying 67=some (.slice 5):=by kernel_rfl
def K9 (T:TypeId) (hT:BT T) (b:Nat) (w:wD) (h0:w.cell? ⟨b,0,none⟩=some (.pointer none)) (hsh:w.shape? b=some (T,2)) (hfz:w.frozen? ⟨b,0,none⟩=false) :
 Calls prog 60 #[.pointer (some ⟨b,0,none⟩)] w fun e w'=>e = .returned (.tuple #[])/\w'=w.setCell ⟨b,0,none⟩ (.pointer (some ⟨b,0,none⟩)):=by
 obtain ⟨j,hj,hjs⟩:=Option.map_eq_some_iff.1 Ye
 go_enter func60,ntmps60
 go_wp2
 rw [Lib.run_to_unsafe w ⟨b,0,none⟩ Vx Sy hj (by rw [hjs];decide) hsh (Nat.zero_lt_succ 1)];simp only [bG];rw [Oper.upon_value]
 go_wp2
 rw [run_callFunc_extern func103 (by kernel_rfl) (by kernel_rfl) (by kernel_rfl) (e:=Extern.AbiNoEscape.same) (by kernel_rfl)];rw [Lib.run_noEscape];simp only [bG];rw [Oper.upon_value]
 go_wp2
 rw [Lib.run_from_unsafe w ⟨b,0,none⟩ Sy Vx hj hsh hT.lies];simp only [bG];rw [Oper.upon_value]
 go_wp2
 go_end0
 exact ⟨rfl,rfl⟩
def Me (b:Nat) (w:wD) (h0:w.cell? ⟨b,0,none⟩=some (.pointer (some ⟨b,0,none⟩))) :
 Calls prog 60 #[.pointer (some ⟨b,0,none⟩)] w fun e w'=>e = .returned (.tuple #[])/\w'=w:=by
 obtain ⟨j,hj,hjs⟩:=Option.map_eq_some_iff.1 Ye
 go_enter func60,ntmps60
 go_wp2
 rw [Lib.run_neq_ptr_same w _ Vx hj]
 go_wp2
 go_end0
 exact ⟨rfl,rfl⟩
structure Fb (B b:Nat) (w w':wD):Prop where
 below:Below B w w'
 kept:Lib.OthersKept 5 (some b) w w'
def Fb.refl (B b:Nat) (w:wD):Fb B b w w:=⟨Below.refl _ _,Lib.OthersKept.refl _ _ _⟩
def Fb.trans {B b:Nat} {u v w:wD} (h:Fb B b u v) (k:Fb B b v w):Fb B b u w:=⟨h.below.trans k.below,h.kept.trans k.kept⟩
def KU (T:TypeId) (E:BT T) (B b:Nat) (f:lV) (w:wD) (h:Lib.IsBuilderF T 5 B b f w) :
 Calls prog 60 #[.pointer (some ⟨b,0,none⟩)] w fun e w'=>e = .returned (.tuple #[])/\(Lib.BuilderAtF T 5 B b (.pointer (some ⟨b,0,none⟩)) f w'/\Fb B b w w'):=by
 rcases h with h|h
 . refine (K9 T E b w h.cell0 h.shape h.frozen0).mono ?_;rintro e w' ⟨rfl,rfl⟩;exact ⟨rfl,h.used _,(Below.refl B w).setCell (p:=⟨b,0,none⟩) h.1 _,(Lib.OthersKept.refl _ _ w).setCell ⟨b,0,none⟩ rfl _⟩
 . refine (Me b w h.cell0).mono ?_;rintro e w' ⟨rfl,rfl⟩;exact ⟨rfl,h,Below.refl B _,Lib.OthersKept.refl _ _ _⟩
def Qj (T:TypeId) (hT:BT T) (B b:Nat) (bs:lV) (c:Int) (w:wD) (h:Lib.IsBuilderF T 5 B b bs w) (hlen:bs.length+1<=140737488355328) (hBw:B<=w.heap.size) :
 Calls prog 147 #[.pointer (some ⟨b,0,none⟩),.int .u8 c] w fun e w'=>e = .returned .nilIface/\(Lib.IsBuilderF T 5 B b (bs++[.int .u8 c]) w'/\Fb B b w w'):=by
 obtain ⟨i0,hi,hz0,hz1,hz2⟩:=info_parts infoByte
 go_enter func147,ntmps147
 go_wp2_with (go_at_call 60;refine (KU T hT B b bs _ h).mono ?_)
 rintro e w1 ⟨rfl,h1,hb1,hk1⟩;obtain ⟨hB,v,hbk,hown,hne⟩:=h1
 have c0:w1.cell? ⟨b,0,none⟩=some (.pointer (some ⟨b,0,none⟩)):=by rw [Lib.cell_of_heap hbk];rfl
 have c1:w1.cell? ⟨b,1,none⟩=some v:=by rw [Lib.cell_of_heap hbk];rfl
 go_wp2_with (at_builtin;refine wpList_append_ownF _ rfl _ _ 67 rfl B 5 i0 (.int .u8 0) 1 1 Vy hi hz0 hz1 hz2 rfl (by decide) _ _ _ rfl (hown.alloc _) ⟨w1.heap.size,0,none⟩ 1 1 [.int .u8 c] rfl rfl ?c1 ?c2 ?c3 ?c4 ?c5 ?_)
 case c1=>
  intro j u hj
  match j,hj with
  | 0,hj=>simp at hj;subst hj;simp [cU]
 case c2=>intro u hu;simp at hu;subst hu;rfl
 case c3=>unfold maxLen;omega
 case c4=>omega
 case c5=>have:=hb1.size;simp;omega
 intro v' w2 hown' hgrow _
 have hlt:b<w1.heap.size:=by
  rcases bQ b w1.heap.size with h'|h'
  . exact h'
  . simp [cJ h'] at hbk
 have hb2:w2.heap[b]? = some (.cells #[.pointer (some ⟨b,0,none⟩),v] T (0,0)):=by
  rw [hgrow.block b (by simp;omega) (fun e=>hne e.symm),Lib.alloc_old w1 _ b hlt]
  exact hbk
 have d0:w2.cell? ⟨b,0,none⟩=some (.pointer (some ⟨b,0,none⟩)):=by rw [Lib.cell_of_heap hb2];rfl
 have d1:w2.cell? ⟨b,1,none⟩=some v:=by rw [Lib.cell_of_heap hb2];rfl
 have f1:w2.frozen? ⟨b,1,none⟩=false:=Lib.frozen_of_heap hb2 1
 obtain ⟨g,cap,rfl⟩ : ∃g cap,v' = .slice (some ⟨g,0,none⟩) (bs.length+1) cap:=by
  rcases hown'.2 with ⟨_,h0⟩|⟨g,cap,cur,fz,hv,_⟩
  . omega
  . exact ⟨g,cap,hv⟩
 go_wp2
 go_ret
 refine ⟨rfl,.inr ?_,?_,((hk1.alloc _).grown hgrow (Lib.ownsRowF_kind (hown.alloc _))).setCell ⟨b,1,none⟩ rfl _⟩
 . exact Lib.BuilderAtF.put (T:=T) (e:=5) hB hb2 (bs':=bs++[.int .u8 c]) (by simpa using hown') hT.ne
 . exact ((hb1.alloc (by have:=hb1.size;omega) _).grown hgrow (by have:=hb1.size;simp;omega) (fun k hk=>(hown.lt k hk).1)).setCell (p:=⟨b,1,none⟩) hB _
def IR (T:TypeId) (hT:BT T) (B b:Nat) (bs:lV) (s:ByteArray) (w:wD) (h:Lib.IsBuilderF T 5 B b bs w) (hlen:bs.length+s.size<=140737488355328) (hBw:B<=w.heap.size) :
 Calls prog 31 #[.pointer (some ⟨b,0,none⟩),.string s] w fun e w'=>e = .returned (.tuple #[.int .i64 s.size,.nilIface])/\(Lib.IsBuilderF T 5 B b (bs++Lib.strCells s) w'/\Fb B b w w'):=by
 obtain ⟨i0,hi,hz0,hz1,hz2⟩:=info_parts infoByte
 go_enter func31,ntmps31
 go_wp2_with (go_at_call 60;refine (KU T hT B b bs _ h).mono ?_)
 rintro e w1 ⟨rfl,h1,hb1,hk1⟩;obtain ⟨hB,v,hbk,hown,hne⟩:=h1
 have c0:w1.cell? ⟨b,0,none⟩=some (.pointer (some ⟨b,0,none⟩)):=by rw [Lib.cell_of_heap hbk];rfl
 have c1:w1.cell? ⟨b,1,none⟩=some v:=by rw [Lib.cell_of_heap hbk];rfl
 go_wp2_with (at_builtin;refine Lib.wpList_append_own_stringF _ rfl _ _ 67 9 rfl B 5 i0 Vy EI hi hz0 hz1 hz2 _ _ _ rfl hown s rfl ?c3 ?c4 ?c5 ?_)
 case c3=>unfold maxLen;omega
 case c4=>omega
 case c5=>have:=hb1.size;omega
 intro v' w2 hown' hgrow _
 have hlt:b<w1.heap.size:=by
  rcases bQ b w1.heap.size with h'|h'
  . exact h'
  . simp [cJ h'] at hbk
 have hb2:w2.heap[b]? = some (.cells #[.pointer (some ⟨b,0,none⟩),v] T (0,0)):=by
  rw [hgrow.block b hlt (fun e=>hne e.symm)]
  exact hbk
 have d0:w2.cell? ⟨b,0,none⟩=some (.pointer (some ⟨b,0,none⟩)):=by rw [Lib.cell_of_heap hb2];rfl
 have d1:w2.cell? ⟨b,1,none⟩=some v:=by rw [Lib.cell_of_heap hb2];rfl
 have f1:w2.frozen? ⟨b,1,none⟩=false:=Lib.frozen_of_heap hb2 1
 obtain ⟨ao,n',cap,rfl⟩ : ∃ao n' cap,v' = .slice ao n' cap:=by
  rcases hown'.2 with ⟨hv,_⟩|⟨g,cap,cur,fz,hv,_⟩
  . exact ⟨_,_,_,hv⟩
  . exact ⟨_,_,_,hv⟩
 go_wp2
 go_ret2
 refine ⟨rfl,.inr ?_,?_,(hk1.grown hgrow (Lib.ownsRowF_kind hown)).setCell ⟨b,1,none⟩ rfl _⟩
 . exact Lib.BuilderAtF.put (T:=T) (e:=5) hB hb2 (bs':=bs++Lib.strCells s) (by simpa [Lib.strCells_length] using hown') hT.ne
 . exact (hb1.grown hgrow (by have:=hb1.size;omega) (fun k hk=>(hown.lt k hk).1)).setCell (p:=⟨b,1,none⟩) hB _
def Qk:prog.underlying 128=some (.pointer 5):=by kernel_rfl
def cellsByte:prog.cellsOf 5=1:=by kernel_rfl
def Em (W:wD) (q:oA):(Builtin.unsafeString_ #[128,3] 9 #[.pointer q,.int .i64 0]).run prog W = .ok (.string .empty) W:=
 Lib.run_unsafeString_none W _ _ _ q
def Ql (T:TypeId) (B b:Nat) (l:lB) (w:wD) (h:Lib.IsBuilderF T 5 B b (Lib.byteCells l) w) (h0:l≠[]) :
 Calls prog 35 #[.pointer (some ⟨b,0,none⟩)] w fun e w'=>e = .returned (.string ⟨l.toArray⟩)/\(Lib.IsBuilderF T 5 B b (Lib.byteCells l) w'/\Fb B b w w'):=by
 obtain ⟨p,hp,hAt⟩ : ∃p,(p = .pointer none\/p = .pointer (some ⟨b,0,none⟩))/\Lib.BuilderAtF T 5 B b p (Lib.byteCells l) w:=by
  rcases h with h|h
  . exact ⟨_,.inl rfl,h⟩
  . exact ⟨_,.inr rfl,h⟩
 obtain ⟨hB,v,hbk,hown,hne⟩:=hAt
 have hl0:l.length≠0:=by simpa using h0
 rw [Lib.byteCells_length] at hown
 obtain ⟨g,cap,cur,fz,rfl,hbg,hg,hfz,hnc,hcm,hcs,htake⟩ : ∃g cap cur fz,v = .slice (some ⟨g,0,none⟩) l.length cap/\B<=g/\w.heap[g]? = some (.cells cur 5 fz)/\fz.2<=l.length*1/\l.length<=cap/\cap<=maxLen/\cur.size=cap*1/\cur.toList.take (l.length*1)=Lib.byteCells l:=by
  rcases hown.2 with ⟨_,hz⟩|⟨g,cap,cur,fz,hv,r⟩
  . exact absurd hz hl0
  . exact ⟨g,cap,cur,fz,hv,r⟩
 have c1:w.drew.cell? ⟨b,1,none⟩=some (.slice (some ⟨g,0,none⟩) l.length cap):=by
  have:w.drew.heap[b]? = some (.cells #[p,.slice (some ⟨g,0,none⟩) l.length cap] T (0,0)):=hbk
  rw [Lib.cell_of_heap this];rfl
 have hSD:(Builtin.unsafeSliceData_ #[67] 128 #[.slice (some ⟨g,0,none⟩) l.length cap]).run prog w.drew = .ok (.pointer (some ⟨g,0,none⟩)) w.drew:=
  Lib.run_unsafeSliceData_row _ _ _ _ _ _ (by omega)
 have hUS:(Builtin.unsafeString_ #[128,3] 9 #[.pointer (some ⟨g,0,none⟩),.int .i64 l.length]).run prog w.drew = .ok (.string ⟨l.toArray⟩) (w.drew.freeze ⟨g,0,none⟩ l.length):=by
  refine Lib.run_unsafeString_row w.drew 128 3 9 5 Qk cellsByte g cur.size (by have hg':w.drew.heap[g]? = some (.cells cur 5 fz):=hg;simp [World.shape?,hg']) l h0 (by omega) (by unfold maxLen at hcm;omega) ?_;intro j x hx;have:=hown.cells (g:=g) rfl j (.int .u8 x.toNat) (by simp [Lib.byteCells,hx])
  exact this
 have hkeep:Lib.IsBuilderF T 5 B b (Lib.byteCells l) (w.drew.freeze ⟨g,0,none⟩ l.length):=by
  have hA:Lib.BuilderAtF T 5 B b p (Lib.byteCells l) w.drew:=⟨hB,_,hbk,by rw [Lib.byteCells_length];exact hown,hne⟩;have hF:=hA.froze (g:=g) (cap:=cap) (by rw [Lib.byteCells_length];exact c1);rw [Lib.byteCells_length] at hF
  rcases hp with rfl|rfl
  . exact .inl hF
  . exact .inr hF
 go_enter func35,ntmps35
 go_wp2
 go_region
 all_goals (go_wp2;go_ret;exact ⟨rfl,hkeep,Lib.below_freeze (Below.drew (Below.refl B w)) (p:=⟨g,0,none⟩) hbg _,((Lib.OthersKept.refl _ _ w).drew).freeze ⟨g,0,none⟩ _ ⟨cur,fz,hg⟩⟩)
def Ry (T:TypeId) (B b:Nat) (p:Value) (w:wD) (hbk:w.heap[b]? = some (.cells #[p,.slice none 0 0] T (0,0))) (hA:Lib.BuilderAtF T 5 B b p [] w) :
 Calls prog 35 #[.pointer (some ⟨b,0,none⟩)] w fun e w'=>e = .returned (.string ⟨#[]⟩)/\(Lib.BuilderAtF T 5 B b p [] w'/\Fb B b w w'):=by
 have hUS:=Em
 have c1:w.drew.cell? ⟨b,1,none⟩=some (.slice none 0 0):=by
  have:w.drew.heap[b]? = some (.cells #[p,.slice none 0 0] T (0,0)):=hbk
  rw [Lib.cell_of_heap this];rfl
 have hSD:(Builtin.unsafeSliceData_ #[67] 128 #[.slice none 0 0]).run prog w.drew = .ok (.pointer none) w.drew:=rfl
 go_enter func35,ntmps35
 go_wp2
 go_region
 all_goals (go_wp2;go_ret;exact ⟨rfl,hA.drew,Below.drew (Below.refl B w),(Lib.OthersKept.refl _ _ w).drew⟩)
def MX (T:TypeId) (B b g:Nat) (p:Value) (cur:Array Value) (w:wD) (hBw:B<=w.heap.size) (hbk:w.heap[b]? = some (.cells #[p,.slice (some ⟨g,0,none⟩) 0 0] T (0,0))) (fz:Nat×Nat) (hg:w.heap[g]? = some (.cells cur 5 fz)) (hA:Lib.BuilderAtF T 5 B b p [] w) :
 Calls prog 35 #[.pointer (some ⟨b,0,none⟩)] w fun e w'=>e = .returned (.string ⟨#[]⟩)/\(Lib.BuilderAtF T 5 B b p [] w'/\Fb B b w w'):=by
 have hUS:=Em
 have hlt:b<w.heap.size:=by
  rcases bQ b w.heap.size with h'|h'
  . exact h'
  . simp [cJ h'] at hbk
 have c1:w.drew.cell? ⟨b,1,none⟩=some (.slice (some ⟨g,0,none⟩) 0 0):=by
  have:w.drew.heap[b]? = some (.cells #[p,.slice (some ⟨g,0,none⟩) 0 0] T (0,0)):=hbk
  rw [Lib.cell_of_heap this];rfl
 have hSD:(Builtin.unsafeSliceData_ #[67] 128 #[.slice (some ⟨g,0,none⟩) 0 0]).run prog w.drew = .ok (.pointer (some ⟨w.drew.heap.size,0,none⟩)) (w.drew.alloc (.view ⟨g,0,none⟩ 5)):=
  Lib.run_unsafeSliceData_zero w.drew _ _ 5 Qk ⟨g,0,none⟩ 0 (5,cur.size) (by have hg':w.drew.heap[g]? = some (.cells cur 5 fz):=hg;simp [World.shape?,hg'])
 have c2:(w.drew.alloc (.view ⟨g,0,none⟩ 5)).cell? ⟨b,1,none⟩=some (.slice (some ⟨g,0,none⟩) 0 0):=by
  have:(w.drew.alloc (.view ⟨g,0,none⟩ 5)).heap[b]? = _:=(Lib.alloc_old w.drew _ b hlt).trans hbk
  rw [Lib.cell_of_heap this];rfl
 have c3:(w.alloc (.view ⟨g,0,none⟩ 5)).drew.cell? ⟨b,1,none⟩=some (.slice (some ⟨g,0,none⟩) 0 0):=c2;have c0:w.cell? ⟨b,1,none⟩=some (.slice (some ⟨g,0,none⟩) 0 0):=c1
 go_enter func35,ntmps35
 go_wp2
 go_region
 all_goals (go_wp2;go_ret;exact ⟨rfl,hA.drew.alloc _,(Below.drew (Below.refl B w)).alloc hBw _,((Lib.OthersKept.refl _ _ w).drew).alloc _⟩)
def Qm (T:TypeId) (B b g cap:Nat) (p:Value) (w:wD) (hc0:cap≠0) (hbk:w.heap[b]? = some (.cells #[p,.slice (some ⟨g,0,none⟩) 0 cap] T (0,0))) (hA:Lib.BuilderAtF T 5 B b p [] w) :
 Calls prog 35 #[.pointer (some ⟨b,0,none⟩)] w fun e w'=>e = .returned (.string ⟨#[]⟩)/\(Lib.BuilderAtF T 5 B b p [] w'/\Fb B b w w'):=by
 have hUS:=Em
 have c1:w.drew.cell? ⟨b,1,none⟩=some (.slice (some ⟨g,0,none⟩) 0 cap):=by
  have:w.drew.heap[b]? = some (.cells #[p,.slice (some ⟨g,0,none⟩) 0 cap] T (0,0)):=hbk
  rw [Lib.cell_of_heap this];rfl
 have hSD:(Builtin.unsafeSliceData_ #[67] 128 #[.slice (some ⟨g,0,none⟩) 0 cap]).run prog w.drew = .ok (.pointer (some ⟨g,0,none⟩)) w.drew:=
  Lib.run_unsafeSliceData_row _ _ _ _ _ _ hc0
 clear hc0
 go_enter func35,ntmps35
 go_wp2
 go_region
 all_goals (go_wp2;go_ret;exact ⟨rfl,hA.drew,Below.drew (Below.refl B w),(Lib.OthersKept.refl _ _ w).drew⟩)
def OC (T:TypeId) (B b:Nat) (w:wD) (h:Lib.IsBuilderF T 5 B b [] w) (N:B<=w.heap.size) :
 Calls prog 35 #[.pointer (some ⟨b,0,none⟩)] w fun e w'=>e = .returned (.string ⟨#[]⟩)/\(Lib.IsBuilderF T 5 B b [] w'/\Fb B b w w'):=by
 obtain ⟨p,Z,U⟩ : ∃p,(p = .pointer none\/p = .pointer (some ⟨b,0,none⟩))/\Lib.BuilderAtF T 5 B b p [] w:=by
  rcases h with h|h
  . exact ⟨_,.inl rfl,h⟩
  . exact ⟨_,.inr rfl,h⟩
 have f : ∀(e:Ending) (w':wD),(e = .returned (.string ⟨#[]⟩)/\(Lib.BuilderAtF T 5 B b p [] w'/\Fb B b w w'))->e = .returned (.string ⟨#[]⟩)/\(Lib.IsBuilderF T 5 B b [] w'/\Fb B b w w'):=by
  rintro e w' ⟨V,X,Y⟩;rcases Z with rfl|rfl
  . exact ⟨V,.inl X,Y⟩
  . exact ⟨V,.inr X,Y⟩
 have E:=U;obtain ⟨hB,v,F,L,aa⟩:=U;rcases L.2 with ⟨rfl,_⟩|⟨g,cap,O,fz,rfl,ab,hg,_,_,_,_,_⟩
 . exact (Ry T B b p w F E).mono f
 . by_cases M:cap=0
   . subst M;exact (MX T B b g p O w N F fz hg E).mono f
   . exact (Qm T B b g cap p w M F E).mono f
def Mf (T:TypeId) (B b:Nat) (l:lB) (w:wD) (h:Lib.IsBuilderF T 5 B b (Lib.byteCells l) w) (f:B<=w.heap.size) :
 Calls prog 35 #[.pointer (some ⟨b,0,none⟩)] w fun e w'=>e = .returned (.string ⟨l.toArray⟩)/\(Lib.IsBuilderF T 5 B b (Lib.byteCells l) w'/\Fb B b w w'):=by
 cases l with
 | nil=>exact OC T B b w h f
 | cons x r=>exact Ql T B b (x::r) w h Bd
structure Tabs (w:wD):Prop where
 sym : ∀i,i<43->w.cell? ⟨1,i,none⟩=some (str (symbols.getD i []))
 pow:Lib.TabIs prog w "internal/strconv.uint64pow10" .u64 Lib.pow10Tab
def FX (k:Int) (w:wD) (f:0<=k) (h1:k<=255) (h:Tabs w):Calls prog 160 #[.int .u8 k] w fun e w'=>e = .returned (str (BQ k))/\w=w':=Ht k w f h1 ⟨h.sym⟩
def NB:BT 113:=⟨by kernel_rfl,Az⟩
structure Bld (B b:Nat) (l:lB) (w:wD):Prop where
 is:Lib.IsBuilderF 113 5 B b (Lib.byteCells l) w
 le:B<=w.heap.size
def If {T e:TypeId} {B b:Nat} {p:Value} {L:lV} {w w':wD} (h:Lib.BuilderAtF T e B b p L w) (x:Ext w w'):Lib.BuilderAtF T e B b p L w':=by
 have E:=h.lt;obtain ⟨M,v,N,f,F⟩:=h;exact ⟨M,v,(x.block E).trans N,f.kept (row:=none) ⟨Below.os x,Below.tape x,Below.output x,Below.size x,fun k O _=>x.block O⟩ (by cases U:v.ownBlock<;>simp),F⟩
def Bld.ext {B b:Nat} {l:lB} {w w':wD} (h:Bld B b l w) (x:Ext w w'):Bld B b l w':=
 ⟨h.is.elim (fun a=>.inl (If a x)) (fun a=>.inr (If a x)),cD h.le x.size⟩
instance {B b:Nat} {l:lB} {w w':wD}:LfE w w' (Bld B b l w) (Bld B b l w'):=⟨fun x h=>Bk.Bld.ext h x⟩
def Bld.alloc {B b:Nat} {l:lB} {w:wD} (h:Bld B b l w) (o:Obj):Bld B b l (w.alloc o):=h.ext ((dI _).alloc o)
def Bld.drew {B b:Nat} {l:lB} {w:wD} (h:Bld B b l w):Bld B b l w.drew:=h.ext (dI _).drew
def Bld.lt {B b:Nat} {l:lB} {w:wD} (h:Bld B b l w):b<w.heap.size:=h.is.elim (fun a=>a.lt) (fun a=>a.lt)
def Bld.base {B b:Nat} {l:lB} {w:wD} (h:Bld B b l w):B<=b:=h.is.elim (fun a=>a.1) (fun a=>a.1)
def Fb.of_ext {B b:Nat} {w w':wD} (x:Ext w w') (h:B<=w.heap.size):Fb B b w w':=
 ⟨Below.mono x h,fun k o f _ _=>(x.block (Array.getElem?_eq_some_iff.1 f).1).trans f⟩
def Fb.alloc {B b:Nat} {u w:wD} (h:Fb B b u w) (f:B<=u.heap.size) (o:Obj):Fb B b u (w.alloc o):=
 h.trans (.of_ext ((dI _).alloc o) (cD f h.below.size))
def Fb.ext {B b:Nat} {u v w:wD} (h:Fb B b u v) (f:B<=u.heap.size) (x:Ext v w):Fb B b u w:=
 h.trans (.of_ext x (cD f h.below.size))
structure Box (k:Nat) (cs:Array Value) (T:TypeId) (w:wD):Prop where
 heap:w.heap[k]? = some (.cells cs T (0,0))
def Box.new (w:wD) (cs:Array Value) (T:TypeId):Box w.heap.size cs T (w.alloc (.cells cs T)):=⟨by show (w.heap.push _)[w.heap.size]? = _;simp⟩
def Box.new' {k:Nat} {w:wD} (cs:Array Value) (T:TypeId) (f:k=w.heap.size):Box k cs T (w.alloc (.cells cs T)):=by subst f;exact Box.new w cs T
def Box.lt {k:Nat} {cs:Array Value} {T:TypeId} {w:wD} (h:Box k cs T w):k<w.heap.size:=(Array.getElem?_eq_some_iff.1 h.heap).1
def Box.ext {k:Nat} {cs:Array Value} {T:TypeId} {w w':wD} (h:Box k cs T w) (x:Ext w w'):Box k cs T w':=⟨(x.block h.lt).trans h.heap⟩
instance {k:Nat} {cs:Array Value} {T:TypeId} {w w':wD}:LfE w w' (Box k cs T w) (Box k cs T w'):=⟨fun x h=>Bk.Box.ext h x⟩
def Box.alloc {k:Nat} {cs:Array Value} {T:TypeId} {w:wD} (h:Box k cs T w) (o:Obj):Box k cs T (w.alloc o):=h.ext ((dI _).alloc o)
def Box.drew {k:Nat} {cs:Array Value} {T:TypeId} {w:wD} (h:Box k cs T w):Box k cs T w.drew:=h.ext (dI _).drew
def Box.fb {k B b:Nat} {cs:Array Value} {T:TypeId} {w w':wD} (h:Box k cs T w) (x:Fb B b w w') (f:k≠b) (E:T≠5):Box k cs T w':=
 ⟨x.kept k _ h.heap (by simpa using f) (fun c F e=>E (by injection e))⟩
def Box.cell {k:Nat} {cs:Array Value} {T:TypeId} {w:wD} (h:Box k cs T w) (o:Nat):w.cell? ⟨k,o,none⟩=cs[o]? := by rw [Lib.cell_of_heap h.heap]
def Box.node {k:Nat} {v0 f v2 v3:Value} {T:TypeId} {w:wD} (h:Box k #[v0,f,v2,v3] T w) :
 w.cell? ⟨k,0,none⟩=some v0/\w.cell? ⟨k,1,none⟩=some f/\w.cell? ⟨k,2,none⟩=some v2/\w.cell? ⟨k,3,none⟩=some v3:=⟨h.cell 0,h.cell 1,h.cell 2,h.cell 3⟩
def rowSits.fb {B b:Nat} {w w':wD} {l:List Nd} {a:oA} (h:rowSits (· < B) w l a) (x:Fb B b w w'):rowSits (· < B) w' l a:=
 Ew aFh (fun k o _ f E=>(Below.cell (p:=⟨k,o,none⟩) x.below f).trans E) l a h
def Qo {P:Program} {B:Nat} {w w':wD} {name:String} {k:IntKind} {f:List Int} (h:Lib.TabIs P w name k f) (E:Below B w w') (F : ∀g,P.globalNamed name=some g->g<B):Lib.TabIs P w' name k f:=by
 unfold Lib.TabIs World.var? at *;cases hn:P.globalNamed name with
 | none=>rw [hn] at h;simp at h
 | some g=>rw [hn] at h;simp only [Option.bind_some] at h ⊢;rw [E.block g (F g hn)];exact h
def Tabs.below {B:Nat} {w w':wD} (h:Tabs w) (E:Below B w w') (M:prog.globals.size<=B):Tabs w':=by
 have h1:1<prog.globals.size:=of_decide_eq_true Bl;have N:2<prog.globals.size:=of_decide_eq_true Bl;refine ⟨fun i F=>(Below.cell (p:=⟨1,i,none⟩) E (by show 1<B;omega)).trans (h.sym i F),Qo h.pow E fun g f=>?_⟩
 have L:prog.globalNamed "internal/strconv.uint64pow10" = some 2:=by kernel_rfl
 rw [L] at f
 injection f with f
 omega
def Tabs.ext {w w':wD} (h:Tabs w) (x:Ext w w') (f:prog.globals.size<=w.heap.size):Tabs w':=h.below x f
def Cj (B b tb tc:Nat) (l:lB) (ss:List lB) (w:wD) (h:Bld B b l w) (ht:Box tb (ss.map str).toArray 9 w) (hn:ss.length<=100) (hlen:(l++ss.flatten).length<=140737488355328) :
 Calls prog 58 #[.pointer (some ⟨b,0,none⟩),.slice (some ⟨tb,0,none⟩) ss.length tc] w fun e w'=>e = .returned (.tuple #[])/\Bld B b (l++ss.flatten) w'/\Fb B b w w':=by
 have hle:=h.le
 have htb:tb≠b:=by
  intro e;have h1:=ht.heap;rw [e] at h1
  rcases h.is with h'|h'<;>(obtain ⟨_,v,hb,_⟩:=h';rw [hb] at h1;injection h1 with h1;injection h1 with _ h1 _;exact absurd h1 (by decide))
 have HB:=bA h;clear h
 have HT:=bA ht;clear ht
 go_enter func58,ntmps58
 go_wp2_with fail
 go_loopw [8] (fun i wr=> ∃j:Nat,j<=ss.length/\i = .int .i64 j/\Bld B b (l++(ss.take j).flatten) wr/\Fb B b w wr) (fun i _=>ss.length-(intOf i).toNat)
 case atStart=>exact ⟨0,bI _,rfl,by simpa using HB.out,Fb.refl _ _ _⟩
 case round=>
  obtain ⟨j,hj,rfl,hbl,hfb⟩:=hrel
  by_cases hlt:j<ss.length
  . have hc:=(HT.out.fb hfb htb (by decide)).cell j
    have hg:(ss.map str).toArray[j]? = some (str ss[j]):=by simp [hlt]
    rw [hg] at hc
    have htk:(ss.take (j+1)).flatten=(ss.take j).flatten++ss[j]:=by rw [bE hlt,List.flatten_append];simp
    have hpre:(ss.take (j+1)).flatten.length<=ss.flatten.length:=by
     have e:ss=ss.take (j+1)++ss.drop (j+1):=(cL _ _).symm
     have e2:ss.flatten.length=(ss.take (j+1)).flatten.length+(ss.drop (j+1)).flatten.length:=by rw [<-aU,<-List.flatten_append,<-e]
     omega
    generalize ss[j]=sj at *
    have HTK:=bA htk;clear hg
    rw [htk] at hpre;simp only [aU] at hlen hpre;clear htk
    have hll:(Lib.byteCells (l++(ss.take j).flatten)).length+(⟨sj.toArray⟩:ByteArray).size<=140737488355328:=by
     rw [Lib.byteCells_length,aU];show _+sj.length<=_;omega
    have HLL:=bA hll;clear hll
    go_wp2_with fail
    refine (IR 113 NB B b _ _ _ hbl.is HLL.out hbl.le).mono ?_;rintro e w1 ⟨rfl,hi1,hf1⟩;simp only
    have hbl1:Bld B b (l++(ss.take (j+1)).flatten) w1:=by
     refine ⟨?_,cD hbl.le hf1.below.size⟩;rw [HTK.out,<-cF]
     have:Lib.byteCells (l++(ss.take j).flatten++sj)=Lib.byteCells (l++(ss.take j).flatten)++Lib.strCells ⟨sj.toArray⟩:=by
      rw [Lib.strCells_toArray];simp [Lib.byteCells]
     rw [this];exact hi1
    clear hbl hc hi1
    go_wp2_with fail
    go_roundw
    case rel=>exact ⟨j+1,by omega,by go_num,hbl1,hfb.trans hf1⟩
    case measure=>simp [intOf];omega
  . go_wp2_with fail
    go_end0
    refine ⟨rfl,?_,hfb⟩;rw [List.take_of_length_le (by omega)] at hbl
    exact hbl
def YM (B b:Nat) (l:lB) (n:Nat) (w:wD) (h:Bld B b l w) (hn:n<=1000000) (hlen:l.length+n<=140737488355328) :
 Calls prog 102 #[.pointer (some ⟨b,0,none⟩),.int .i64 n] w fun e w'=>e = .returned (.tuple #[])/\Bld B b (l++cB n 9) w'/\Fb B b w w':=by
 have HB:=bA h;clear h
 go_enter func102,ntmps102
 go_wp2_with fail
 go_loopw [5] (fun i wr=> ∃j:Nat,j<=n/\i = .int .i64 j/\Bld B b (l++cB j 9) wr/\Fb B b w wr) (fun i _=>n-(intOf i).toNat)
 case atStart=>exact ⟨0,bI _,rfl,by simpa using HB.out,Fb.refl _ _ _⟩
 case round=>
  obtain ⟨j,hj,rfl,hbl,hfb⟩:=hrel
  by_cases hlt:j<n
  . go_wp2_with fail
    refine (Qj 113 NB B b _ _ _ hbl.is (by rw [Lib.byteCells_length];simp;omega) hbl.le).mono ?_;rintro e w1 ⟨rfl,hi1,hf1⟩;simp only
    have hbl1:Bld B b (l++cB (j+1) 9) w1:=by
     refine ⟨?_,cD hbl.le hf1.below.size⟩
     have:Lib.byteCells (l++cB (j+1) 9)=Lib.byteCells (l++cB j 9)++[Value.int .u8 9]:=by
      rw [List.replicate_succ',<-cF];simp [Lib.byteCells]
     rw [this];exact hi1
    clear hbl hi1
    go_wp2_with fail
    go_roundw
    case rel=>exact ⟨j+1,by omega,by go_num,hbl1,hfb.trans hf1⟩
    case measure=>simp [intOf];omega
  . go_wp2_with fail
    go_end0
    refine ⟨rfl,?_,hfb⟩
    have:j=n:=by omega
    subst this;exact hbl
def Prints (f:FuncId) (OK:Nd->lB) (t:Nd):Prop:=
 ∀(B b:Nat) (l:lB) (w:wD) (a:oA) (c:Nat),Bld B b l w->Tabs w->prog.globals.size<=B->t.sits (· < B) w a->(l++OK t).length<=140737488355328 ->
  Calls prog f #[.pointer (some ⟨b,0,none⟩),t.val a c] w fun e w'=>e = .returned (.tuple #[])/\Bld B b (l++OK t) w'/\Fb B b w w'
def Nd.sits.fb {B b:Nat} {w w':wD} {t:Nd} {a:oA} (h:t.sits (· < B) w a) (x:Fb B b w w'):t.sits (· < B) w' a:=
 Nd.sits_mono aFh (fun k o _ f E=>(Below.cell (p:=⟨k,o,none⟩) x.below f).trans E) t a h
def Tabs.fb {B b:Nat} {w w':wD} (h:Tabs w) (x:Fb B b w w') (f:prog.globals.size<=B):Tabs w':=h.below x.below f
def GF (t:Nd) (hp:Prints 192 dT t) (B b:Nat) (l:lB) (q:Bool) (w:wD) (a:oA) (c:Nat) (h:Bld B b l w) (ht:Tabs w) (hB:prog.globals.size<=B)
 (hs:t.sits (· < B) w a) (hlen:(l++wrap t.text q).length<=140737488355328) :
 Calls prog 229 #[.pointer (some ⟨b,0,none⟩),t.val a c,.bool q] w fun e w'=>e = .returned (.tuple #[])/\Bld B b (l++wrap t.text q) w'/\Fb B b w w':=by
 have hle:=h.le;have hlt:=h.lt
 have HP:=bA hp;clear hp
 cases q
 . have HL:Hid ((l++t.text).length<=140737488355328):=bA (by simpa [wrap] using hlen)
   clear hlen
   go_enter func229,ntmps229
   go_wp2_with fail
   refine (HP.out B b l _ a c (h.alloc _) (ht.ext ((dI _).alloc _) (by omega)) hB (hs.ext ((dI _).alloc _)) HL.out).mono ?_;rintro e w1 ⟨rfl,hb1,hx1⟩;simp only
   go_wp2_with fail
   ((try simp only [Exit.inBlock,Exit.then]);refine bodyPost_ret (results_none rfl _ _ _) rfl ?_)
   exact ⟨rfl,by simpa [wrap] using hb1,Fb.trans ((Fb.refl _ _ _).alloc hle _) hx1⟩
 . simp only [wrap,if_true,aU,aV,aX] at hlen
   go_enter func229,ntmps229
   go_wp2_with fail
   have hbx0:Box w.heap.size #[.int .u8 t.kind,.int .i64 t.num,str t.name,.slice a t.kids.length c] 32 (w.alloc (.cells #[.int .u8 t.kind,.int .i64 t.num,str t.name,.slice a t.kids.length c] 32)):=Box.new _ _ _;refine (Cj B b (w.heap.size+1) 1 l [[40]] _ ((h.alloc _).alloc _) (Box.new' _ _ (by simp)) (by decide) (by simp;omega)).mono ?_;rintro e w1 ⟨rfl,hb1,hx1⟩;have hbx1:=(hbx0.alloc (Obj.cells #[.string { data:= #[40] }] 9)).fb hx1 (by omega) (by decide);have hxx1:Fb B b w w1:=Fb.trans (((Fb.refl _ _ _).alloc hle _).alloc hle _) hx1;obtain ⟨g0,g1,g2,g3⟩:=hbx1.node;simp only
   go_wp2_with fail
   refine (HP.out B b (l++[[40]].flatten) _ a c hb1 (ht.fb hxx1 hB) hB (hs.fb hxx1) (by simp;omega)).mono ?_;rintro e w2 ⟨rfl,hb2,hx2⟩;simp only
   go_wp2_with fail
   refine (Cj B b w2.heap.size 1 _ [[41]] _ (hb2.alloc _) (Box.new' _ _ (by simp)) (by decide) (by simp;omega)).mono ?_;rintro e w3 ⟨rfl,hb3,hx3⟩;simp only
   go_wp2_with fail
   go_end0
   refine ⟨rfl,by simpa [wrap] using hb3,?_⟩
   exact (hxx1.trans hx2).trans (Fb.trans ((Fb.refl _ _ _).alloc hb2.le _) hx3)
open Go.Sort
def Vz (w:wD) (k:Nat) (f:Array Obj):Ext w (grow (w.drewN k) f):=by
 have h:(grow (w.drewN k) f).heap=w.heap++f:=rfl;refine ⟨rfl,rfl,rfl,?_,fun i E=>?_⟩
 . rw [h];simp
 . rw [h,Array.getElem?_append_left E]
def VA (n:Int) (f : -9223372036854775808<=n) (h1:n<=9223372036854775807) (w:wD) (h:Tabs w) :
 Calls prog 62 #[.int .i64 n] w fun e w'=>e = .returned (str (Lib.itoa n))/\Ext w w':=
 (Tryz.strconv_Itoa n f h1 w h.pow).mono fun e w' ⟨E,k,os,hw⟩=>⟨E,hw▸Vz w k os⟩
def Ig (k n:Int) (s:lB) (a:oA) (l c:Nat) (w:wD) :
 Calls prog 230 #[.agg #[.int .u8 k,.int .i64 n,str s,.slice a l c]] w fun e w'=>e = .returned (.bool (Dk k))/\Ext w w':=by
 go_enter func230,ntmps230
 go_wp2_with fail
 all_goals go_ret
 all_goals exact ⟨AI (by unfold Dk;rw [Bool.eq_iff_iff];simp;try omega),(by repeat (first|exact dI _|assumption|refine dJ ?_ _|refine dX ?_|refine dK ?_ ‹_›))⟩
def YN (n:Int) (s:lB) (l:List Nd) (hn0 : -9223372036854775808<=n) (hn1:n<=9223372036854775807):Prints 192 dT (.mk 1 n s l):=by
 intro B b t w a c h ht hB hs hlen
 have htx:(Nd.mk 1 n s l).text=Lib.itoa n:=by rw [Nd.text.eq_def];simp
 rw [htx] at hlen ⊢;have hle:=h.le;have hlt:=h.lt;simp only [aU] at hlen;simp only [dM,dU,dO,dN,dW];clear hs
 go_enter func192,ntmps192
 go_wp2_with fail
 refine (VA n hn0 hn1 _ (ht.ext ((dI _).alloc _) (by omega))).mono ?_;rintro e w1 ⟨rfl,hx1⟩;have hb1:=(h.alloc _).ext hx1;simp only
 go_wp2_with fail
 refine (Cj B b w1.heap.size 1 t [Lib.itoa n] _ (hb1.alloc _) (Box.new' _ _ (by simp)) (by simp) (by simp;omega)).mono ?_;rintro e w2 ⟨rfl,hb2,hx2⟩;simp only
 go_wp2_with fail
 go_end0
 exact ⟨rfl,by simpa using hb2,Fb.trans (Fb.of_ext (by refine dJ ?_ _;refine dK ?_ ‹_›;refine dJ ?_ _;exact dI _) hle) hx2⟩
def YO (n:Int) (s:lB) (l:List Nd):Prints 192 dT (.mk 2 n s l):=by
 intro B b t w a c h ht hB hs hlen
 have htx:(Nd.mk 2 n s l).text=s:=by rw [Nd.text.eq_def];simp
 rw [htx] at hlen ⊢;have hle:=h.le;have hlt:=h.lt;simp only [aU] at hlen;simp only [dM,dU,dO,dN,dW];clear hs
 go_enter func192,ntmps192
 go_wp2_with fail
 refine (Cj B b (w.heap.size+1) 1 t [s] _ ((h.alloc _).alloc _) (Box.new' _ _ (by simp)) (by simp) (by simp;omega)).mono ?_;rintro e w2 ⟨rfl,hb2,hx2⟩;simp only
 go_wp2_with fail
 go_end0
 exact ⟨rfl,by simpa using hb2,Fb.trans (Fb.of_ext (by refine dJ ?_ _;refine dJ ?_ _;exact dI _) hle) hx2⟩
def YP (n:Int) (s:lB) (l:List Nd):Prints 192 dT (.mk 4 n s l):=by
 intro B b t w a c h ht hB hs hlen
 have htx:(Nd.mk 4 n s l).text=[116,111,112,40]++s++[41]:=by rw [Nd.text.eq_def];simp
 rw [htx] at hlen ⊢;have hle:=h.le;have hlt:=h.lt;simp only [aU,aV,aX] at hlen;simp only [dM,dU,dO,dN,dW];clear hs
 go_enter func192,ntmps192
 go_wp2_with fail
 refine (Cj B b (w.heap.size+1) 3 t [[116,111,112,40],s,[41]] _ ((h.alloc _).alloc _) (Box.new' _ _ (by simp)) (by simp) (by simp;omega)).mono ?_;rintro e w2 ⟨rfl,hb2,hx2⟩;simp only
 go_wp2_with fail
 go_end0
 exact ⟨rfl,by simpa using hb2,Fb.trans (Fb.of_ext (by refine dJ ?_ _;refine dJ ?_ _;exact dI _) hle) hx2⟩
def YQ (n:Int) (s:lB) (l:List Nd):Prints 192 dT (.mk 5 n s l):=by
 intro B b t w a c h ht hB hs hlen
 have htx:(Nd.mk 5 n s l).text=[115,105,122,101,40]++s++[41]:=by rw [Nd.text.eq_def];simp
 rw [htx] at hlen ⊢;have hle:=h.le;have hlt:=h.lt;simp only [aU,aV,aX] at hlen;simp only [dM,dU,dO,dN,dW];clear hs
 go_enter func192,ntmps192
 go_wp2_with fail
 refine (Cj B b (w.heap.size+1) 3 t [[115,105,122,101,40],s,[41]] _ ((h.alloc _).alloc _) (Box.new' _ _ (by simp)) (by simp) (by simp;omega)).mono ?_;rintro e w2 ⟨rfl,hb2,hx2⟩;simp only
 go_wp2_with fail
 go_end0
 exact ⟨rfl,by simpa using hb2,Fb.trans (Fb.of_ext (by refine dJ ?_ _;refine dJ ?_ _;exact dI _) hle) hx2⟩
def TQ {S:nP} {w:wD} {x:Nd} {a:oA} (h:rowSits S w [x] a) : ∃f E xa xc,a=some ⟨f,E,none⟩/\S f/\w.cell? ⟨f,E,none⟩=some (.int .u8 x.kind)/\w.cell? ⟨f,E+1,none⟩=some (.int .i64 x.num)/\w.cell? ⟨f,E+2,none⟩=some (str x.name)/\w.cell? ⟨f,E+3,none⟩=some (.slice xa x.kids.length xc)/\x.sits S w xa:=by
 obtain ⟨b,o,F,c,rfl,L,h1,M,N,O,U⟩:=DM h (i:=0) (t:=x) rfl;exact ⟨b,o,F,c,rfl,L,by simpa using h1,by simpa using M,by simpa using N,by simpa using O,U⟩
def YR (n:Int) (s:lB) (x:Nd) (hx:Prints 192 dT x):Prints 192 dT (.mk 3 n s [x]):=by
 intro B b t w a c h ht hB hs hlen
 have htx:(Nd.mk 3 n s [x]).text=s++[91]++x.text++[93]:=by rw [Nd.text.eq_def];simp
 rw [htx] at hlen ⊢;have hle:=h.le;have hlt:=h.lt;simp only [aU,aV,aX] at hlen;simp only [dM,dU,dO,dN,dW,aV,aX]
 have HX:=bA hx;clear hx
 simp only [dY] at hs;obtain ⟨kb,ko,xa,xc,rfl,-,-⟩:=TQ hs;have hbx0:Box w.heap.size #[.int .u8 3,.int .i64 n,str s,.slice (some ⟨kb,ko,none⟩) 1 c] 32 (w.alloc (.cells #[.int .u8 3,.int .i64 n,str s,.slice (some ⟨kb,ko,none⟩) 1 c] 32)):=Box.new _ _ _
 go_enter func192,ntmps192
 go_wp2_with fail
 refine (Cj B b (w.heap.size+1) 2 t [s,[91]] _ ((h.alloc _).alloc _) (Box.new' _ _ (by simp)) (by simp) (by simp;omega)).mono ?_;rintro e w1 ⟨rfl,hb1,hx1⟩;have hbx1:=(hbx0.alloc _).fb hx1 (by omega) (by decide);have hxx1:Fb B b w w1:=Fb.trans (Fb.of_ext (by refine dJ ?_ _;refine dJ ?_ _;exact dI _) hle) hx1;obtain ⟨g0,g1,g2,g3⟩:=hbx1.node;have hs1:=hs.fb hxx1;obtain ⟨kb',ko',xa,xc,he,hk1,k0,k1,k2,k3,hxs⟩:=TQ hs1;simp only [bK,Addr.mk.injEq] at he;obtain ⟨rfl,rfl,-⟩:=he;simp only
 go_wp2_with fail
 refine (HX.out B b _ _ xa xc hb1 (ht.fb hxx1 hB) hB hxs (by simp;omega)).mono ?_;rintro e w2 ⟨rfl,hb2,hx2⟩;simp only
 go_wp2_with fail
 refine (Cj B b w2.heap.size 1 _ [[93]] _ (hb2.alloc _) (Box.new' _ _ (by simp)) (by simp) (by simp;omega)).mono ?_;rintro e w3 ⟨rfl,hb3,hx3⟩;simp only
 go_wp2_with fail
 go_end0
 exact ⟨rfl,by simpa using hb3,(hxx1.trans hx2).trans (Fb.trans (Fb.of_ext (by refine dJ ?_ _;exact dI _) hb2.le) hx3)⟩
def Xo (k n:Int) (s:lB) (x:Nd) (hk:k=6\/k=7) (hx:Prints 192 dT x):Prints 192 dT (.mk k n s [x]):=by
 intro B b t w a c h ht hB hs hlen
 have htx:(Nd.mk k n s [x]).text=BQ k++wrap x.text (Dk x.kind):=by rcases hk with rfl|rfl<;>(rw [Nd.text.eq_def];simp)
 rw [htx] at hlen ⊢;have hle:=h.le;have hlt:=h.lt;simp only [aU,aV,aX] at hlen;simp only [dM,dU,dO,dN,dW,aV,aX]
 have HX:=bA hx;clear hx htx
 simp only [dY] at hs;obtain ⟨kb,ko,xa,xc,rfl,-,-⟩:=TQ hs;have hbx0:Box w.heap.size #[.int .u8 k,.int .i64 n,str s,.slice (some ⟨kb,ko,none⟩) 1 c] 32 (w.alloc (.cells #[.int .u8 k,.int .i64 n,str s,.slice (some ⟨kb,ko,none⟩) 1 c] 32)):=Box.new _ _ _
 have hk0:0<=k/\k<=255:=by omega
 obtain ⟨hk0,hk1⟩:=hk0
 have d1:(k==1)=false:=by rw [beq_eq_false_iff_ne];omega
 have d2:(k==2)=false:=by rw [beq_eq_false_iff_ne];omega
 have d3:(k==3)=false:=by rw [beq_eq_false_iff_ne];omega
 have d4:(k==4)=false:=by rw [beq_eq_false_iff_ne];omega
 have d5:(k==5)=false:=by rw [beq_eq_false_iff_ne];omega
 have dk:(k==6)=true\/(k==6)=false/\(k==7)=true:=by rcases hk with rfl|rfl<;>simp
 clear hk
 rcases dk with d6|⟨d6,d7⟩
 all_goals
  go_enter func192,ntmps192
  go_wp2_with fail
  refine (FX _ _ hk0 hk1 (ht.ext ((dI _).alloc _) (by omega))).mono ?_;rintro e w1 ⟨rfl,rfl⟩;simp only
  go_wp2_with fail
  refine (Cj B b (w.heap.size+1) 1 t [BQ k] _ ((h.alloc _).alloc _) (Box.new' _ _ (by simp)) (by simp) (by simp;omega)).mono ?_;rintro e w1 ⟨rfl,hb1,hx1⟩;have hbx1:=(hbx0.alloc _).fb hx1 (by omega) (by decide);have hxx1:Fb B b w w1:=Fb.trans (Fb.of_ext (by repeat (first|exact dI _|assumption|refine dJ ?_ _|refine dX ?_|refine dK ?_ ‹_›)) hle) hx1;obtain ⟨g0,g1,g2,g3⟩:=hbx1.node;have hs1:=hs.fb hxx1;obtain ⟨kb',ko',xa,xc,he,hkB,k0,k1,k2,k3,hxs⟩:=TQ hs1;simp only [bK,Addr.mk.injEq] at he;obtain ⟨rfl,rfl,-⟩:=he;have ht1:=ht.fb hxx1 hB;simp only
  go_wp2_with fail
  go_region_held3 (fun w'=>w'.cell? ⟨w.heap.size,3,none⟩=some (.slice (some ⟨kb,ko,none⟩) 1 c)/\w'.cell? ⟨kb,ko,none⟩=some (.int .u8 x.kind)/\w'.cell? ⟨kb,ko+1,none⟩=some (.int .i64 x.num)/\w'.cell? ⟨kb,ko+2,none⟩=some (str x.name)/\w'.cell? ⟨kb,ko+3,none⟩=some (.slice xa x.kids.length xc))
   (first|exact ⟨g3,k0,k1,k2,k3⟩|exact ⟨hx2.keep g3,hx2.keep k0,hx2.keep k1,hx2.keep k2,hx2.keep k3⟩|exact ⟨(((hbx1.drew.ext hx2).fb hx3 (by omega) (by decide)).node).2.2.2,(Below.cell (p:=⟨_,_,none⟩) hx3.below hkB).trans (hx2.keep k0),(Below.cell (p:=⟨_,_,none⟩) hx3.below hkB).trans (hx2.keep k1),(Below.cell (p:=⟨_,_,none⟩) hx3.below hkB).trans (hx2.keep k2),(Below.cell (p:=⟨_,_,none⟩) hx3.below hkB).trans (hx2.keep k3)⟩)
   (first|(go_at_call 230;refine (Ig _ _ _ _ _ _ _).mono ?_;rintro e w2 ⟨rfl,hx2⟩)|(go_at_call 229;refine (GF x HX.out B b _ _ _ xa xc (hb1.drew.ext hx2) ((ht1.ext (dI _).drew (by have:=hb1.le;omega)).ext hx2 (by have:=hb1.le;show _<=w1.heap.size;omega)) hB (hxs.ext (dK (dI _).drew hx2)) (by simp;omega)).mono ?_;rintro e w3 ⟨rfl,hb3,hx3⟩))
  go_wp2_with fail
  go_end0
  exact ⟨rfl,by simpa [dM] using hb3,(hxx1.trans (Fb.of_ext (dK (dI _).drew hx2) hb1.le)).trans hx3⟩
def Mg {a k:Int} (h:Dk a=false):Ei a k=false:=by simp [Ei,h]
def Mh {a k:Int} (h:Dk a=false):ED a k=false:=by simp [ED,h]
def Mi {a k:Int} (h:Dk a=true) {q:Bool} (f:q=true↔B3 a<B3 k):Ei a k=q:=by rw [Bool.eq_iff_iff,f];simp [Ei,h]
def Mj {a k:Int} (h:Dk a=true) {q:Bool} (f:q=true↔B3 a<=B3 k):ED a k=q:=by rw [Bool.eq_iff_iff,f];simp [ED,h]
def Zx {S:nP} {w:wD} {x y:Nd} {a:oA} (h:rowSits S w [x,y] a) : ∃f E xa xc ya yc,a=some ⟨f,E,none⟩/\S f/\(w.cell? ⟨f,E,none⟩=some (.int .u8 x.kind)/\w.cell? ⟨f,E+1,none⟩=some (.int .i64 x.num)/\w.cell? ⟨f,E+2,none⟩=some (str x.name)/\w.cell? ⟨f,E+3,none⟩=some (.slice xa x.kids.length xc)/\x.sits S w xa) /\
 (w.cell? ⟨f,E+4,none⟩=some (.int .u8 y.kind)/\w.cell? ⟨f,E+4+1,none⟩=some (.int .i64 y.num)/\w.cell? ⟨f,E+4+2,none⟩=some (str y.name)/\w.cell? ⟨f,E+4+3,none⟩=some (.slice ya y.kids.length yc)/\y.sits S w ya):=by
 obtain ⟨b,o,X,c,rfl,Y,h1,Z,h3,h4,h5⟩:=DM h (i:=0) (t:=x) rfl;obtain ⟨b',o',F,c',V,aa,L,M,N,O,U⟩:=DM h (i:=1) (t:=y) rfl;simp only [bK,Addr.mk.injEq] at V;obtain ⟨rfl,rfl,-⟩:=V;exact ⟨b,o,X,c,F,c',rfl,Y,⟨by simpa using h1,by simpa using Z,by simpa using h3,by simpa using h4,h5⟩,⟨by simpa using L,by simpa using M,by simpa using N,by simpa using O,U⟩⟩
set_option maxHeartbeats 8000000 in
def VB (k n:Int) (s:lB) (x y:Nd) (hk8:8<=k) (hk23:k<=23) (hx:Prints 192 dT x) (hy:Prints 192 dT y):Prints 192 dT (.mk k n s [x,y]):=by
 intro B b t w a c h ht hB hs hlen
 have d1:(k==1)=false:=by rw [beq_eq_false_iff_ne];omega
 have d2:(k==2)=false:=by rw [beq_eq_false_iff_ne];omega
 have d3:(k==3)=false:=by rw [beq_eq_false_iff_ne];omega
 have d4:(k==4)=false:=by rw [beq_eq_false_iff_ne];omega
 have d5:(k==5)=false:=by rw [beq_eq_false_iff_ne];omega
 have d6:(k==6)=false:=by rw [beq_eq_false_iff_ne];omega
 have d7:(k==7)=false:=by rw [beq_eq_false_iff_ne];omega
 have htx:(Nd.mk k n s [x,y]).text=wrap x.text (Ei x.kind k)++[32]++BQ k++[32]++wrap y.text (ED y.kind k):=by
  rw [Nd.text.eq_def];simp only [];rw [AE (by omega),AE (by omega),AE (by omega),AE (by omega),AE (by omega),AE (by omega)]
 rw [htx] at hlen ⊢;have hle:=h.le;have hlt:=h.lt;simp only [aU,aV,aX] at hlen;simp only [dM,dU,dO,dN,dW,aV,aX]
 have HX:=bA hx;clear hx htx
 have HY:=bA hy;clear hy
 simp only [dY] at hs;obtain ⟨xk,xn,xs,xl⟩:=x;obtain ⟨yk,yn,ys,yl⟩:=y;obtain ⟨kb,ko,xa,xc,ya,yc,rfl,hkB,⟨k0,k1,k2,k3,hxs⟩,⟨m0,m1,m2,m3,hys⟩⟩:=Zx hs;simp only [dM,dU,dO,dN] at *
 go_enter func192,ntmps192
 have hkw:kb<w.heap.size:=Nat.lt_of_lt_of_le hkB hle;have m1':w.cell? ⟨kb,ko+5,none⟩=some (.int .i64 yn):=m1;have m2':w.cell? ⟨kb,ko+6,none⟩=some (str ys):=m2;have m3':w.cell? ⟨kb,ko+7,none⟩=some (.slice ya yl.length yc):=m3
 have hkw1:kb<w.heap.size+1:=by omega
 have hkw2:kb<w.heap.size+2:=by omega
 have hkw3:kb<w.heap.size+1+1:=by omega
 go_upto_region 2 with fail
 go_cut [4,5] (fun s4 s5 W=> ∃pl pr:Nat,s4 = .pointer (some ⟨pl,0,none⟩)/\s5 = .pointer (some ⟨pr,0,none⟩)/\Box w.heap.size #[.int .u8 k,.int .i64 n,str s,.slice (some ⟨kb,ko,none⟩) 2 c] 32 W/\Box pl #[.int .u8 xk,.int .i64 xn,str xs,.slice xa xl.length xc] 32 W/\Box pr #[.int .u8 yk,.int .i64 yn,str ys,.slice ya yl.length yc] 32 W/\Ext w W/\b<pl/\b<pr)
 case first=>
  go_region
  . go_wp2_with fail
    go_meet
    exact ⟨w.heap.size+1,w.heap.size+1+1,rfl,rfl,(((Box.new _ _ _).alloc _).alloc _).drew,((Box.new' _ _ (by simp)).alloc _).drew,(Box.new' _ _ (by simp)).drew,(by refine dX ?_;refine dJ ?_ _;refine dJ ?_ _;refine dJ ?_ _;exact dI _),by omega,by omega⟩
  . go_wp2_with fail
    go_meet
    exact ⟨w.heap.size+1+1,w.heap.size+1,rfl,rfl,(((Box.new _ _ _).alloc _).alloc _).drew,(Box.new' _ _ (by simp)).drew,((Box.new' _ _ (by simp)).alloc _).drew,(by refine dX ?_;refine dJ ?_ _;refine dJ ?_ _;refine dJ ?_ _;exact dI _),by omega,by omega⟩
 case rest=>
  obtain ⟨W,hW⟩ : ∃W:wD,W=wc:=⟨wc,rfl⟩;subst hW;obtain ⟨pl,pr,rfl,rfl,hbn,hbl,hbr,hxW,hpl,hpr⟩:=hcut;have hle1:B<=W.heap.size:=cD hle hxW.size;have ht1:=ht.ext hxW (by omega);have hxW1:Fb B b w W:=Fb.of_ext hxW hle;have hxs1:=hxs.ext hxW;have hys1:=hys.ext hxW;have hb0:=h.ext hxW;clear k0 k1 k2 k3 m0 m1 m2 m3 m1' m2' m3' hxs hys hs h ht hkw hkw1 hkw2 hkw3;have hbb:=hb0.lt;obtain ⟨c0,c1,c2,c3⟩:=hbn.node;obtain ⟨l0,l1,l2,l3⟩:=hbl.node
  go_wp2_with fail
  refine (DF _ _ (by omega) (by omega)).mono ?_;rintro e w1 ⟨rfl,rfl⟩;simp only
  go_upto_region 4 with fail
  go_cut [] (fun u3=>Bld B b (t++wrap (Nd.mk xk xn xs xl).text (Ei xk k)) u3/\Fb B b W u3)
  case first=>
   cases hq:Dk xk
   . have HQ:=bA hq;clear hq
     refine wp_region_held_drew (S:=fun w'=>w'.cell? ⟨pl,0,none⟩=some (.int .u8 xk)/\w'.cell? ⟨pl,1,none⟩=some (.int .i64 xn)/\w'.cell? ⟨pl,2,none⟩=some (str xs)/\w'.cell? ⟨pl,3,none⟩=some (.slice xa xl.length xc)) (by kernel_rfl) ⟨l0,l1,l2,l3⟩ (fun hHeld=>?_)
     ((refine wpAnyH_take (i:=0) (oi:=_) (v:=?v0_1) rfl (by kernel_rfl) (by kernel_rfl) (by kernel_rfl) (fun _ _ _ h=>h) (bC ⟨by rfl,?y0_1⟩) ‹_› ?r0_1);(case y0_1=>(intro w hSw;(try dsimp only at hSw);go_simp;try (with_reducible rfl)));(try simp only [Act.put,List.getElem_toArray,List.getElem_cons_zero,aW,List.setIfInBounds_toArray,aZ,List.set_cons_succ]))
     ((refine wpAnyH_take (i:=1) (oi:=_) (v:=?v1_2) rfl (by kernel_rfl) (by kernel_rfl) (by kernel_rfl) (fun _ _ _ h=>h) (bC ⟨by rfl,?y1_2⟩) ‹_› ?r1_2);(case y1_2=>(intro w hSw;(try dsimp only at hSw);go_simp;try (with_reducible rfl)));(try simp only [Act.put,List.getElem_toArray,List.getElem_cons_zero,aW,List.setIfInBounds_toArray,aZ,List.set_cons_succ]))
     ((refine wpAnyH_take (i:=2) (oi:=_) (v:=?v2_3) rfl (by kernel_rfl) (by kernel_rfl) (by kernel_rfl) (fun _ _ _ h=>h) (bC ⟨by rfl,?y2_3⟩) ‹_› ?r2_3);(case y2_3=>(intro w hSw;(try dsimp only at hSw);go_simp;try (with_reducible rfl)));(try simp only [Act.put,List.getElem_toArray,List.getElem_cons_zero,aW,List.setIfInBounds_toArray,aZ,List.set_cons_succ]))
     ((refine wpAnyH_ready (rs:=[3]) (by kernel_rfl) (by simp) ?_);(refine AllReadyH.cons (o:=_) rfl (fun K hK=>?_) AllReadyH.nil);go_simp)
     refine (Ig _ _ _ _ _ _ _).mono ?_;rintro e u2 ⟨rfl,hx2⟩;rw [HQ.out];refine hK.out _ _ ⟨hx2.keep l0,hx2.keep l1,hx2.keep l2,hx2.keep l3⟩ (fun hHeld=>?_);clear hK K;(try simp only [Act.put,List.getElem_toArray,List.getElem_cons_zero,aW,List.setIfInBounds_toArray,aZ,List.set_cons_succ])
     ((refine wpAnyH_take (i:=4) (oi:=_) (v:=?v4_4) rfl (by kernel_rfl) (by kernel_rfl) (by kernel_rfl) (fun _ _ _ h=>h) (bC ⟨by rfl,?y4_4⟩) ‹_› ?r4_4);(case y4_4=>(intro w hSw;(try dsimp only at hSw);go_simp;try (with_reducible rfl)));(try simp only [Act.put,List.getElem_toArray,List.getElem_cons_zero,aW,List.setIfInBounds_toArray,aZ,List.set_cons_succ]))
     ((refine wpAnyH_take (i:=5) (oi:=_) (v:=undef) rfl (by kernel_rfl) (by kernel_rfl) (by kernel_rfl) (fun _ _ _ h=>h) (bF ⟨by rfl,rfl⟩) ‹_› ?_);(try simp only [Act.put,List.getElem_toArray,List.getElem_cons_zero,aW,List.setIfInBounds_toArray,aZ,List.set_cons_succ]))
     ((refine wpAnyH_take (i:=6) (oi:=_) (v:=undef) rfl (by kernel_rfl) (by kernel_rfl) (by kernel_rfl) (fun _ _ _ h=>h) (bF ⟨by rfl,rfl⟩) ‹_› ?_);(try simp only [Act.put,List.getElem_toArray,List.getElem_cons_zero,aW,List.setIfInBounds_toArray,aZ,List.set_cons_succ]))
     ((refine wpAnyH_take (i:=7) (oi:=_) (v:=undef) rfl (by kernel_rfl) (by kernel_rfl) (by kernel_rfl) (fun _ _ _ h=>h) (bF ⟨by rfl,rfl⟩) ‹_› ?_);(try simp only [Act.put,List.getElem_toArray,List.getElem_cons_zero,aW,List.setIfInBounds_toArray,aZ,List.set_cons_succ]))
     ((refine wpAnyH_take (i:=8) (oi:=_) (v:=undef) rfl (by kernel_rfl) (by kernel_rfl) (by kernel_rfl) (fun _ _ _ h=>h) (bF ⟨by rfl,rfl⟩) ‹_› ?_);(try simp only [Act.put,List.getElem_toArray,List.getElem_cons_zero,aW,List.setIfInBounds_toArray,aZ,List.set_cons_succ]))
     ((refine wpAnyH_take (i:=9) (oi:=_) (v:=undef) rfl (by kernel_rfl) (by kernel_rfl) (by kernel_rfl) (fun _ _ _ h=>h) (bF ⟨by rfl,rfl⟩) ‹_› ?_);(try simp only [Act.put,List.getElem_toArray,List.getElem_cons_zero,aW,List.setIfInBounds_toArray,aZ,List.set_cons_succ]))
     ((refine wpAnyH_take (i:=10) (oi:=_) (v:=?v10_5) rfl (by kernel_rfl) (by kernel_rfl) (by kernel_rfl) (fun _ _ _ h=>h) (bC ⟨by rfl,?y10_5⟩) ‹_› ?r10_5);(case y10_5=>(intro w hSw;(try dsimp only at hSw);go_simp;try (with_reducible rfl)));(try simp only [Act.put,List.getElem_toArray,List.getElem_cons_zero,aW,List.setIfInBounds_toArray,aZ,List.set_cons_succ]))
     ((refine wpAnyH_ready (rs:=[11]) (by kernel_rfl) (by simp) ?_);(refine AllReadyH.cons (o:=_) rfl (fun K hK=>?_) AllReadyH.nil);go_simp)
     refine (GF (.mk xk xn xs xl) HX.out B b _ _ _ xa xc (hb0.drew.ext hx2) ((ht1.ext (dI _).drew (by omega)).ext hx2 (by show _<=W.heap.size;omega)) hB (hxs1.ext (dK (dI _).drew hx2)) (by rw [<-Mg (k:=k) HQ.out];simp only [aU,cI,List.flatten_nil,aV,aX] at hlen ⊢;omega)).mono ?_;rintro e u3 ⟨rfl,hb3,hx3⟩;rw [<-Mg (k:=k) HQ.out] at hb3;refine hK.out _ _ ((hbl.drew.ext hx2).fb hx3 (by omega) (by decide)).node (fun hHeld=>?_);clear hK K hHeld;(try simp only [Act.put,List.getElem_toArray,List.getElem_cons_zero,aW,List.setIfInBounds_toArray,aZ,List.set_cons_succ]);(refine wpAnyH_done (by kernel_rfl) ?_ _)
     go_wp2_with fail
     go_meet
     refine ⟨?_,(Fb.of_ext (dK (dI _).drew hx2) hle1).trans hx3⟩
     exact hb3
   . have HQ:=bA hq;clear hq
     refine wp_region_held_drew (S:=fun w'=>w'.cell? ⟨pl,0,none⟩=some (.int .u8 xk)/\w'.cell? ⟨pl,1,none⟩=some (.int .i64 xn)/\w'.cell? ⟨pl,2,none⟩=some (str xs)/\w'.cell? ⟨pl,3,none⟩=some (.slice xa xl.length xc)) (by kernel_rfl) ⟨l0,l1,l2,l3⟩ (fun hHeld=>?_)
     ((refine wpAnyH_take (i:=0) (oi:=_) (v:=?v0_6) rfl (by kernel_rfl) (by kernel_rfl) (by kernel_rfl) (fun _ _ _ h=>h) (bC ⟨by rfl,?y0_6⟩) ‹_› ?r0_6);(case y0_6=>(intro w hSw;(try dsimp only at hSw);go_simp;try (with_reducible rfl)));(try simp only [Act.put,List.getElem_toArray,List.getElem_cons_zero,aW,List.setIfInBounds_toArray,aZ,List.set_cons_succ]))
     ((refine wpAnyH_take (i:=1) (oi:=_) (v:=?v1_7) rfl (by kernel_rfl) (by kernel_rfl) (by kernel_rfl) (fun _ _ _ h=>h) (bC ⟨by rfl,?y1_7⟩) ‹_› ?r1_7);(case y1_7=>(intro w hSw;(try dsimp only at hSw);go_simp;try (with_reducible rfl)));(try simp only [Act.put,List.getElem_toArray,List.getElem_cons_zero,aW,List.setIfInBounds_toArray,aZ,List.set_cons_succ]))
     ((refine wpAnyH_take (i:=2) (oi:=_) (v:=?v2_8) rfl (by kernel_rfl) (by kernel_rfl) (by kernel_rfl) (fun _ _ _ h=>h) (bC ⟨by rfl,?y2_8⟩) ‹_› ?r2_8);(case y2_8=>(intro w hSw;(try dsimp only at hSw);go_simp;try (with_reducible rfl)));(try simp only [Act.put,List.getElem_toArray,List.getElem_cons_zero,aW,List.setIfInBounds_toArray,aZ,List.set_cons_succ]))
     ((refine wpAnyH_ready (rs:=[3]) (by kernel_rfl) (by simp) ?_);(refine AllReadyH.cons (o:=_) rfl (fun K hK=>?_) AllReadyH.nil);go_simp)
     refine (Ig _ _ _ _ _ _ _).mono ?_;rintro e u2 ⟨rfl,hx2⟩;rw [HQ.out];refine hK.out _ _ ⟨hx2.keep l0,hx2.keep l1,hx2.keep l2,hx2.keep l3⟩ (fun hHeld=>?_);clear hK K;(try simp only [Act.put,List.getElem_toArray,List.getElem_cons_zero,aW,List.setIfInBounds_toArray,aZ,List.set_cons_succ])
     ((refine wpAnyH_take (i:=4) (oi:=_) (v:=?v4_9) rfl (by kernel_rfl) (by kernel_rfl) (by kernel_rfl) (fun _ _ _ h=>h) (bC ⟨by rfl,?y4_9⟩) ‹_› ?r4_9);(case y4_9=>(intro w hSw;(try dsimp only at hSw);go_simp;try (with_reducible rfl)));(try simp only [Act.put,List.getElem_toArray,List.getElem_cons_zero,aW,List.setIfInBounds_toArray,aZ,List.set_cons_succ]))
     have hbk:8<=xk/\xk<=23:=by have:=HQ.out;simp [Dk] at this;exact this
     obtain ⟨hbk0,hbk1⟩:=hbk
     ((refine wpAnyH_take (i:=5) (oi:=_) (v:=?v5_10) rfl (by kernel_rfl) (by kernel_rfl) (by kernel_rfl) (fun _ _ _ h=>h) (bC ⟨by rfl,?y5_10⟩) ‹_› ?r5_10);(case y5_10=>(intro w hSw;(try dsimp only at hSw);go_simp;try (with_reducible rfl)));(try simp only [Act.put,List.getElem_toArray,List.getElem_cons_zero,aW,List.setIfInBounds_toArray,aZ,List.set_cons_succ]))
     ((refine wpAnyH_take (i:=6) (oi:=_) (v:=?v6_11) rfl (by kernel_rfl) (by kernel_rfl) (by kernel_rfl) (fun _ _ _ h=>h) (bC ⟨by rfl,?y6_11⟩) ‹_› ?r6_11);(case y6_11=>(intro w hSw;(try dsimp only at hSw);go_simp;try (with_reducible rfl)));(try simp only [Act.put,List.getElem_toArray,List.getElem_cons_zero,aW,List.setIfInBounds_toArray,aZ,List.set_cons_succ]))
     ((refine wpAnyH_take (i:=8) (oi:=_) (v:=?v8_12) rfl (by kernel_rfl) (by kernel_rfl) (by kernel_rfl) (fun _ _ _ h=>h) (bC ⟨by rfl,?y8_12⟩) ‹_› ?r8_12);(case y8_12=>(intro w hSw;(try dsimp only at hSw);go_simp;try (with_reducible rfl)));(try simp only [Act.put,List.getElem_toArray,List.getElem_cons_zero,aW,List.setIfInBounds_toArray,aZ,List.set_cons_succ]))
     ((refine wpAnyH_ready (rs:=[7]) (by kernel_rfl) (by simp) ?_);(refine AllReadyH.cons (o:=_) rfl (fun K hK=>?_) AllReadyH.nil);go_simp)
     refine (DF _ _ (by omega) (by omega)).mono ?_;rintro e u' ⟨rfl,rfl⟩;refine hK.out _ _ ⟨hx2.keep l0,hx2.keep l1,hx2.keep l2,hx2.keep l3⟩ (fun hHeld=>?_);clear hK K;(try simp only [Act.put,List.getElem_toArray,List.getElem_cons_zero,aW,List.setIfInBounds_toArray,aZ,List.set_cons_succ])
     ((refine wpAnyH_take (i:=9) (oi:=_) (v:=?v9_13) rfl (by kernel_rfl) (by kernel_rfl) (by kernel_rfl) (fun _ _ _ h=>h) (bC ⟨by rfl,?y9_13⟩) ‹_› ?r9_13);(case y9_13=>(intro w hSw;(try dsimp only at hSw);go_simp;try (with_reducible rfl)));(try simp only [Act.put,List.getElem_toArray,List.getElem_cons_zero,aW,List.setIfInBounds_toArray,aZ,List.set_cons_succ]))
     ((refine wpAnyH_take (i:=10) (oi:=_) (v:=?v10_14) rfl (by kernel_rfl) (by kernel_rfl) (by kernel_rfl) (fun _ _ _ h=>h) (bC ⟨by rfl,?y10_14⟩) ‹_› ?r10_14);(case y10_14=>(intro w hSw;(try dsimp only at hSw);go_simp;try (with_reducible rfl)));(try simp only [Act.put,List.getElem_toArray,List.getElem_cons_zero,aW,List.setIfInBounds_toArray,aZ,List.set_cons_succ]))
     ((refine wpAnyH_ready (rs:=[11]) (by kernel_rfl) (by simp) ?_);(refine AllReadyH.cons (o:=_) rfl (fun K hK=>?_) AllReadyH.nil);go_simp)
     refine (GF (.mk xk xn xs xl) HX.out B b _ _ _ xa xc (hb0.drew.ext hx2) ((ht1.ext (dI _).drew (by omega)).ext hx2 (by show _<=W.heap.size;omega)) hB (hxs1.ext (dK (dI _).drew hx2)) (by rw [<-Mi (k:=k) HQ.out (decide_eq_true_iff)];simp only [aU,cI,List.flatten_nil,aV,aX] at hlen ⊢;omega)).mono ?_;rintro e u3 ⟨rfl,hb3,hx3⟩;rw [<-Mi (k:=k) HQ.out (decide_eq_true_iff)] at hb3;refine hK.out _ _ ((hbl.drew.ext hx2).fb hx3 (by omega) (by decide)).node (fun hHeld=>?_);clear hK K hHeld;(try simp only [Act.put,List.getElem_toArray,List.getElem_cons_zero,aW,List.setIfInBounds_toArray,aZ,List.set_cons_succ]);(refine wpAnyH_done (by kernel_rfl) ?_ _)
     go_wp2_with fail
     go_meet
     refine ⟨?_,(Fb.of_ext (dK (dI _).drew hx2) hle1).trans hx3⟩
     exact hb3
  case rest=>
   obtain ⟨u3,hu3⟩ : ∃u3:wD,u3=wc:=⟨wc,rfl⟩;subst hu3;obtain ⟨hb3,hxx3⟩:=hcut
   have hlen2:t.length+(wrap (Nd.mk xk xn xs xl).text (Ei xk k)).length+(1+(BQ k).length+1)+(wrap (Nd.mk yk yn ys yl).text (ED yk k)).length<=140737488355328:=by omega
   clear hlen;obtain ⟨c0,c1,c2,c3⟩:=(hbn.fb hxx3 (by omega) (by decide)).node;have hbr3:=hbr.fb hxx3 (by omega) (by decide);have ht3:=ht1.fb hxx3 hB;have hys3:=hys1.fb hxx3;have hle3:=hb3.le;clear hbl hbn hxs1 l0 l1 l2 l3 ht1 hys1 hbr hb0
   go_wp2_with fail
   refine (FX _ _ (by omega) (by omega) ht3).mono ?_;rintro e u4 ⟨rfl,rfl⟩;simp only
   go_wp2_with fail
   refine (Cj B b u3.heap.size 3 _ [[32],BQ k,[32]] _ (hb3.alloc _) (Box.new' _ _ (by simp)) (by simp) (by simp only [aU,cI,List.flatten_nil,aV,aX];omega)).mono ?_;rintro e u4 ⟨rfl,hb4,hx4⟩;have hxx4:Fb B b u3 u4:=Fb.trans (Fb.of_ext (by refine dJ ?_ _;exact dI _) hle3) hx4;have hbr4:=hbr3.fb hxx4 (by omega) (by decide);obtain ⟨r0,r1,r2,r3⟩:=hbr4.node;have ht4:=ht3.fb hxx4 hB;have hys4:=hys3.fb hxx4;have hle4:=hb4.le;clear hbr3 ht3 hys3 c0 c1 c2 c3 hx4;simp only
   go_wp2_with fail
   cases hq:Dk yk
   . have HR:=bA hq;clear hq
     refine wp_region_held_drew (S:=fun w'=>w'.cell? ⟨pr,0,none⟩=some (.int .u8 yk)/\w'.cell? ⟨pr,1,none⟩=some (.int .i64 yn)/\w'.cell? ⟨pr,2,none⟩=some (str ys)/\w'.cell? ⟨pr,3,none⟩=some (.slice ya yl.length yc)) (by kernel_rfl) ⟨r0,r1,r2,r3⟩ (fun hHeld=>?_)
     ((refine wpAnyH_take (i:=0) (oi:=_) (v:=?v0_15) rfl (by kernel_rfl) (by kernel_rfl) (by kernel_rfl) (fun _ _ _ h=>h) (bC ⟨by rfl,?y0_15⟩) ‹_› ?r0_15);(case y0_15=>(intro w hSw;(try dsimp only at hSw);go_simp;try (with_reducible rfl)));(try simp only [Act.put,List.getElem_toArray,List.getElem_cons_zero,aW,List.setIfInBounds_toArray,aZ,List.set_cons_succ]))
     ((refine wpAnyH_take (i:=1) (oi:=_) (v:=?v1_16) rfl (by kernel_rfl) (by kernel_rfl) (by kernel_rfl) (fun _ _ _ h=>h) (bC ⟨by rfl,?y1_16⟩) ‹_› ?r1_16);(case y1_16=>(intro w hSw;(try dsimp only at hSw);go_simp;try (with_reducible rfl)));(try simp only [Act.put,List.getElem_toArray,List.getElem_cons_zero,aW,List.setIfInBounds_toArray,aZ,List.set_cons_succ]))
     ((refine wpAnyH_take (i:=2) (oi:=_) (v:=?v2_17) rfl (by kernel_rfl) (by kernel_rfl) (by kernel_rfl) (fun _ _ _ h=>h) (bC ⟨by rfl,?y2_17⟩) ‹_› ?r2_17);(case y2_17=>(intro w hSw;(try dsimp only at hSw);go_simp;try (with_reducible rfl)));(try simp only [Act.put,List.getElem_toArray,List.getElem_cons_zero,aW,List.setIfInBounds_toArray,aZ,List.set_cons_succ]))
     ((refine wpAnyH_ready (rs:=[3]) (by kernel_rfl) (by simp) ?_);(refine AllReadyH.cons (o:=_) rfl (fun K hK=>?_) AllReadyH.nil);go_simp)
     refine (Ig _ _ _ _ _ _ _).mono ?_;rintro e u5 ⟨rfl,hx5⟩;rw [HR.out];refine hK.out _ _ ⟨hx5.keep r0,hx5.keep r1,hx5.keep r2,hx5.keep r3⟩ (fun hHeld=>?_);clear hK K;(try simp only [Act.put,List.getElem_toArray,List.getElem_cons_zero,aW,List.setIfInBounds_toArray,aZ,List.set_cons_succ])
     ((refine wpAnyH_take (i:=4) (oi:=_) (v:=?v4_18) rfl (by kernel_rfl) (by kernel_rfl) (by kernel_rfl) (fun _ _ _ h=>h) (bC ⟨by rfl,?y4_18⟩) ‹_› ?r4_18);(case y4_18=>(intro w hSw;(try dsimp only at hSw);go_simp;try (with_reducible rfl)));(try simp only [Act.put,List.getElem_toArray,List.getElem_cons_zero,aW,List.setIfInBounds_toArray,aZ,List.set_cons_succ]))
     ((refine wpAnyH_take (i:=5) (oi:=_) (v:=undef) rfl (by kernel_rfl) (by kernel_rfl) (by kernel_rfl) (fun _ _ _ h=>h) (bF ⟨by rfl,rfl⟩) ‹_› ?_);(try simp only [Act.put,List.getElem_toArray,List.getElem_cons_zero,aW,List.setIfInBounds_toArray,aZ,List.set_cons_succ]))
     ((refine wpAnyH_take (i:=6) (oi:=_) (v:=undef) rfl (by kernel_rfl) (by kernel_rfl) (by kernel_rfl) (fun _ _ _ h=>h) (bF ⟨by rfl,rfl⟩) ‹_› ?_);(try simp only [Act.put,List.getElem_toArray,List.getElem_cons_zero,aW,List.setIfInBounds_toArray,aZ,List.set_cons_succ]))
     ((refine wpAnyH_take (i:=7) (oi:=_) (v:=undef) rfl (by kernel_rfl) (by kernel_rfl) (by kernel_rfl) (fun _ _ _ h=>h) (bF ⟨by rfl,rfl⟩) ‹_› ?_);(try simp only [Act.put,List.getElem_toArray,List.getElem_cons_zero,aW,List.setIfInBounds_toArray,aZ,List.set_cons_succ]))
     ((refine wpAnyH_take (i:=8) (oi:=_) (v:=undef) rfl (by kernel_rfl) (by kernel_rfl) (by kernel_rfl) (fun _ _ _ h=>h) (bF ⟨by rfl,rfl⟩) ‹_› ?_);(try simp only [Act.put,List.getElem_toArray,List.getElem_cons_zero,aW,List.setIfInBounds_toArray,aZ,List.set_cons_succ]))
     ((refine wpAnyH_take (i:=9) (oi:=_) (v:=undef) rfl (by kernel_rfl) (by kernel_rfl) (by kernel_rfl) (fun _ _ _ h=>h) (bF ⟨by rfl,rfl⟩) ‹_› ?_);(try simp only [Act.put,List.getElem_toArray,List.getElem_cons_zero,aW,List.setIfInBounds_toArray,aZ,List.set_cons_succ]))
     ((refine wpAnyH_take (i:=10) (oi:=_) (v:=?v10_19) rfl (by kernel_rfl) (by kernel_rfl) (by kernel_rfl) (fun _ _ _ h=>h) (bC ⟨by rfl,?y10_19⟩) ‹_› ?r10_19);(case y10_19=>(intro w hSw;(try dsimp only at hSw);go_simp;try (with_reducible rfl)));(try simp only [Act.put,List.getElem_toArray,List.getElem_cons_zero,aW,List.setIfInBounds_toArray,aZ,List.set_cons_succ]))
     ((refine wpAnyH_ready (rs:=[11]) (by kernel_rfl) (by simp) ?_);(refine AllReadyH.cons (o:=_) rfl (fun K hK=>?_) AllReadyH.nil);go_simp)
     refine (GF (.mk yk yn ys yl) HY.out B b _ _ _ ya yc (hb4.drew.ext hx5) ((ht4.ext (dI _).drew (by omega)).ext hx5 (by show _<=u4.heap.size;omega)) hB (hys4.ext (dK (dI _).drew hx5)) (by rw [<-Mh (k:=k) HR.out];simp only [aU,cI,List.flatten_nil,aV,aX] at hlen2 ⊢;omega)).mono ?_;rintro e u6 ⟨rfl,hb6,hx6⟩;rw [<-Mh (k:=k) HR.out] at hb6;refine hK.out _ _ ((hbr4.drew.ext hx5).fb hx6 (by omega) (by decide)).node (fun hHeld=>?_);clear hK K hHeld;(try simp only [Act.put,List.getElem_toArray,List.getElem_cons_zero,aW,List.setIfInBounds_toArray,aZ,List.set_cons_succ]);(refine wpAnyH_done (by kernel_rfl) ?_ _)
     go_wp2_with fail
     go_end0
     refine ⟨rfl,?_,(hxW1.trans hxx3).trans (hxx4.trans ((Fb.of_ext (dK (dI _).drew hx5) hle4).trans hx6))⟩
     simpa using hb6
   . have HR:=bA hq;clear hq
     refine wp_region_held_drew (S:=fun w'=>w'.cell? ⟨pr,0,none⟩=some (.int .u8 yk)/\w'.cell? ⟨pr,1,none⟩=some (.int .i64 yn)/\w'.cell? ⟨pr,2,none⟩=some (str ys)/\w'.cell? ⟨pr,3,none⟩=some (.slice ya yl.length yc)) (by kernel_rfl) ⟨r0,r1,r2,r3⟩ (fun hHeld=>?_)
     ((refine wpAnyH_take (i:=0) (oi:=_) (v:=?v0_20) rfl (by kernel_rfl) (by kernel_rfl) (by kernel_rfl) (fun _ _ _ h=>h) (bC ⟨by rfl,?y0_20⟩) ‹_› ?r0_20);(case y0_20=>(intro w hSw;(try dsimp only at hSw);go_simp;try (with_reducible rfl)));(try simp only [Act.put,List.getElem_toArray,List.getElem_cons_zero,aW,List.setIfInBounds_toArray,aZ,List.set_cons_succ]))
     ((refine wpAnyH_take (i:=1) (oi:=_) (v:=?v1_21) rfl (by kernel_rfl) (by kernel_rfl) (by kernel_rfl) (fun _ _ _ h=>h) (bC ⟨by rfl,?y1_21⟩) ‹_› ?r1_21);(case y1_21=>(intro w hSw;(try dsimp only at hSw);go_simp;try (with_reducible rfl)));(try simp only [Act.put,List.getElem_toArray,List.getElem_cons_zero,aW,List.setIfInBounds_toArray,aZ,List.set_cons_succ]))
     ((refine wpAnyH_take (i:=2) (oi:=_) (v:=?v2_22) rfl (by kernel_rfl) (by kernel_rfl) (by kernel_rfl) (fun _ _ _ h=>h) (bC ⟨by rfl,?y2_22⟩) ‹_› ?r2_22);(case y2_22=>(intro w hSw;(try dsimp only at hSw);go_simp;try (with_reducible rfl)));(try simp only [Act.put,List.getElem_toArray,List.getElem_cons_zero,aW,List.setIfInBounds_toArray,aZ,List.set_cons_succ]))
     ((refine wpAnyH_ready (rs:=[3]) (by kernel_rfl) (by simp) ?_);(refine AllReadyH.cons (o:=_) rfl (fun K hK=>?_) AllReadyH.nil);go_simp)
     refine (Ig _ _ _ _ _ _ _).mono ?_;rintro e u5 ⟨rfl,hx5⟩;rw [HR.out];refine hK.out _ _ ⟨hx5.keep r0,hx5.keep r1,hx5.keep r2,hx5.keep r3⟩ (fun hHeld=>?_);clear hK K;(try simp only [Act.put,List.getElem_toArray,List.getElem_cons_zero,aW,List.setIfInBounds_toArray,aZ,List.set_cons_succ])
     ((refine wpAnyH_take (i:=4) (oi:=_) (v:=?v4_23) rfl (by kernel_rfl) (by kernel_rfl) (by kernel_rfl) (fun _ _ _ h=>h) (bC ⟨by rfl,?y4_23⟩) ‹_› ?r4_23);(case y4_23=>(intro w hSw;(try dsimp only at hSw);go_simp;try (with_reducible rfl)));(try simp only [Act.put,List.getElem_toArray,List.getElem_cons_zero,aW,List.setIfInBounds_toArray,aZ,List.set_cons_succ]))
     have hbk:8<=yk/\yk<=23:=by have:=HR.out;simp [Dk] at this;exact this
     obtain ⟨hbk0,hbk1⟩:=hbk
     ((refine wpAnyH_take (i:=5) (oi:=_) (v:=?v5_24) rfl (by kernel_rfl) (by kernel_rfl) (by kernel_rfl) (fun _ _ _ h=>h) (bC ⟨by rfl,?y5_24⟩) ‹_› ?r5_24);(case y5_24=>(intro w hSw;(try dsimp only at hSw);go_simp;try (with_reducible rfl)));(try simp only [Act.put,List.getElem_toArray,List.getElem_cons_zero,aW,List.setIfInBounds_toArray,aZ,List.set_cons_succ]))
     ((refine wpAnyH_take (i:=6) (oi:=_) (v:=?v6_25) rfl (by kernel_rfl) (by kernel_rfl) (by kernel_rfl) (fun _ _ _ h=>h) (bC ⟨by rfl,?y6_25⟩) ‹_› ?r6_25);(case y6_25=>(intro w hSw;(try dsimp only at hSw);go_simp;try (with_reducible rfl)));(try simp only [Act.put,List.getElem_toArray,List.getElem_cons_zero,aW,List.setIfInBounds_toArray,aZ,List.set_cons_succ]))
     ((refine wpAnyH_take (i:=8) (oi:=_) (v:=?v8_26) rfl (by kernel_rfl) (by kernel_rfl) (by kernel_rfl) (fun _ _ _ h=>h) (bC ⟨by rfl,?y8_26⟩) ‹_› ?r8_26);(case y8_26=>(intro w hSw;(try dsimp only at hSw);go_simp;try (with_reducible rfl)));(try simp only [Act.put,List.getElem_toArray,List.getElem_cons_zero,aW,List.setIfInBounds_toArray,aZ,List.set_cons_succ]))
     ((refine wpAnyH_ready (rs:=[7]) (by kernel_rfl) (by simp) ?_);(refine AllReadyH.cons (o:=_) rfl (fun K hK=>?_) AllReadyH.nil);go_simp)
     refine (DF _ _ (by omega) (by omega)).mono ?_;rintro e u' ⟨rfl,rfl⟩;refine hK.out _ _ ⟨hx5.keep r0,hx5.keep r1,hx5.keep r2,hx5.keep r3⟩ (fun hHeld=>?_);clear hK K;(try simp only [Act.put,List.getElem_toArray,List.getElem_cons_zero,aW,List.setIfInBounds_toArray,aZ,List.set_cons_succ])
     ((refine wpAnyH_take (i:=9) (oi:=_) (v:=?v9_27) rfl (by kernel_rfl) (by kernel_rfl) (by kernel_rfl) (fun _ _ _ h=>h) (bC ⟨by rfl,?y9_27⟩) ‹_› ?r9_27);(case y9_27=>(intro w hSw;(try dsimp only at hSw);go_simp;try (with_reducible rfl)));(try simp only [Act.put,List.getElem_toArray,List.getElem_cons_zero,aW,List.setIfInBounds_toArray,aZ,List.set_cons_succ]))
     ((refine wpAnyH_take (i:=10) (oi:=_) (v:=?v10_28) rfl (by kernel_rfl) (by kernel_rfl) (by kernel_rfl) (fun _ _ _ h=>h) (bC ⟨by rfl,?y10_28⟩) ‹_› ?r10_28);(case y10_28=>(intro w hSw;(try dsimp only at hSw);go_simp;try (with_reducible rfl)));(try simp only [Act.put,List.getElem_toArray,List.getElem_cons_zero,aW,List.setIfInBounds_toArray,aZ,List.set_cons_succ]))
     ((refine wpAnyH_ready (rs:=[11]) (by kernel_rfl) (by simp) ?_);(refine AllReadyH.cons (o:=_) rfl (fun K hK=>?_) AllReadyH.nil);go_simp)
     refine (GF (.mk yk yn ys yl) HY.out B b _ _ _ ya yc (hb4.drew.ext hx5) ((ht4.ext (dI _).drew (by omega)).ext hx5 (by show _<=u4.heap.size;omega)) hB (hys4.ext (dK (dI _).drew hx5)) (by rw [<-Mj (k:=k) HR.out (decide_eq_true_iff)];simp only [aU,cI,List.flatten_nil,aV,aX] at hlen2 ⊢;omega)).mono ?_;rintro e u6 ⟨rfl,hb6,hx6⟩;rw [<-Mj (k:=k) HR.out (decide_eq_true_iff)] at hb6;refine hK.out _ _ ((hbr4.drew.ext hx5).fb hx6 (by omega) (by decide)).node (fun hHeld=>?_);clear hK K hHeld;(try simp only [Act.put,List.getElem_toArray,List.getElem_cons_zero,aW,List.setIfInBounds_toArray,aZ,List.set_cons_succ]);(refine wpAnyH_done (by kernel_rfl) ?_ _)
     go_wp2_with fail
     go_end0
     refine ⟨rfl,?_,(hxW1.trans hxx3).trans (hxx4.trans ((Fb.of_ext (dK (dI _).drew hx5) hle4).trans hx6))⟩
     simpa using hb6
end Bk
