/- Texts that the proofs of GradebookNone, GradebookFull, GradebookNew, GradebookRanks, GradebookApart need. No condition. (Part 9 of 13.) -/
import Derived.Test.YteiiipaobncfgaaGreatPGua8
set_option linter.unusedSimpArgs false
set_option linter.unusedVariables false
set_option linter.defProp false
set_option maxRecDepth 100000
set_option maxHeartbeats 4000000
open Go.Proofs.Tryz
open List renaming getElem?_eq_getElem->gm,take_succ_eq_append_getElem->gx,getElem_mem->gA,length_cons->gD,take_length->gF,getElem?_eq_none->gG,getElem?_append_left->gJ,length_append->gO,replicate->gT,getElem?_append_right->gU,getElem?_map->gV,drop_eq_getElem_cons->gW,getElem?_cons_zero->gX,getD_eq_getElem?_getD->gY,append_assoc->gZ,length_nil->hH,mem_singleton->ia,length_take->ij,mem_cons->ik,map_cons->im,mem_of_getElem?->io,range->it,getElem?_set_ne->iF,not_mem_nil->iH
open Go.Lib renaming hid->gp
open Or renaming inl->gq,inr->gt
open Bool renaming and_eq_true->gu,false_eq_true->iE
open Go.Result renaming andThen->gw
open Option.some renaming injEq->gy,inj->gB
open Go.IntWalk renaming i64_in->gz
open Nat renaming zero_le->gC,le_refl->gI,lt_or_ge->gK,blt->gM,le_of_ble_eq_true->gS,eq_of_beq_eq_true->ip,zero_add->iu,ble->iy,beq->iA
open Go.Sem renaming run_bind->gE,run_pure->gP
open Go renaming Calls->gH
open Except renaming bind->gL
open Go.Value renaming slice->gN,int->ii,ownBlock->iI
open Go.Region renaming ready->gQ,binds->iw
open Go.Value.slice renaming injEq->gR
open Go.DataW renaming trod->ic
open List.cons renaming injEq->ig
open Go.Builtin renaming zeroCells->iq
open Go.Calls renaming mono->ir
open Array renaming getElem?_eq_none->iv,replicate->iD
open Go.Oper renaming wp->iB
open Go.Addr renaming add->iC
open Go.IntKind renaming wrap->iG
open Go.Op renaming equalIn->iJ
open Bk.Ext renaming refl->iK
open Bk.Row renaming ext->iO,at0->iT
namespace Bk
open Go Go.RowKit Go.Proofs
attribute [local irreducible] Go.Calls
def XW {P:Program} {n:Nat} {l:Sl} {S:wD->Prop} {tab:Tab} {t t' ty sz:Nat} {x y:Operand} {p:Bool} (T:TabOk P tab) (G:Az tab t=some (.bool,sz)) (M:ev l x=some (.bool p)) (N:ev l y=some (.bool p)):Bh P n l S (.binOp .eql t x y t') ty (.bool true):=by
 unfold Bh;intro _ w O pos after g h _;have U:(eqGuard .eql t x y (.bool p) (.bool p)).run P w = .ok () w:=by unfold eqGuard;simp
 have V:P.underlying t=some .bool:=(T _ _ _ G).under;have X:(Op.equal t (.bool p) (.bool p)).run P w = .ok true w:=by
  show (iJ (9999+1) t (.bool p) (.bool p)).run P w=_;unfold iJ;simp [AA V,gw]
 simp [execOp,h.ev M,h.ev N,U,X,binOp]
def SJ (xs:List Int) (hx:xs.length<=1000000) (S S':nP) (a a':oA) (c c':Nat) (w:wD) (M:Rows S w (AX xs) a) (N:Rows S' w (AX xs) a') :
 Calls prog 60 #[.slice a xs.length c,.slice a' xs.length c'] w λe w'=>e = .returned (.bool true)/\Ext w w':=by
 have X:=iK w;refine Ad func60 ntmps60 rfl rfl (cS (C1 Pa (cT (Aj (cS (C1 Mv (C1 Pz (C1 Mv (C1 Pz (C1 V2 (cT (C6 (Ao (Ai (Aj (cS (C1 Pa (cT ?_))))))))))))))))));refine As ?_;refine AG (ι:=Nat) (λj=>[(0,.slice a xs.length c),(1,.slice a' xs.length c'),(5,.int .i64 j)])
  (λj w'=>j<=xs.length/\Rows S w' (AX xs) a/\Rows S' w' (AX xs) a'/\Ext w w') (λj=>xs.length-j) 0 sB ⟨gC _,M,N,X⟩ ?_
 clear M N X;rintro j w1 ⟨hj,M,N,X⟩;by_cases G:j<xs.length
 . rcases M with h|⟨g,o,rfl,s1,r1⟩
   . rw [List.map_eq_nil_iff] at h;rw [h] at G;simp at G
   rcases N with h|⟨g',o',rfl,s2,r2⟩
   . rw [List.map_eq_nil_iff] at h;rw [h] at G;simp at G
   have rx:Row w1 ⟨g,o+j*1,none⟩ [.int .i64 xs[j]]:=OU r1 (by rw [gV,gm G];rfl);have ry:Row w1 ⟨g',o'+j*1,none⟩ [.int .i64 xs[j]]:=OU r2 (by rw [gV,gm G];rfl);have M:Rows S w1 (AX xs) (some ⟨g,o,none⟩):=gt ⟨g,o,rfl,s1,r1⟩;have N:Rows S' w1 (AX xs) (some ⟨g',o',none⟩):=gt ⟨g',o',rfl,s2,r2⟩;generalize xs[j]=x at *;refine eK ?_;refine Aq (λU=>Ext w1 U) 8 (.pure 0 (.pure 1 (.pure 2 (.pure 3 (.pure 4 (.pure 5 (.pure 6 (.pure 7 .tail)))))))) mixed AT (Aa (Ae (Aa (Aa (Ae (Aa Ag)))))) ?_;intro aa V _;have O:(λU=>Ext w1 U) aa:=V;simp only at O;have Y:=rx;have Z:=ry;revert X M N;refine eE V ?_;intro X M N;refine ⟨O,?_⟩;refine eT ?_;refine Tq rfl (Ap Ac rfl rfl rfl (λU hz=>iT (iO Y hz) rfl)) (eT ?_);refine Tq rfl (Ap Ac rfl rfl rfl (λU hz=>iT (iO Z hz) rfl)) (At rfl (C1 V2 (cT (C6 (Ao (Ah (Ai (Al (C1 Mv (C1 V7 (C1 Pa (Ak ?_))))))))))));exact Aw (j+1) sB ⟨Ab,M,N,X⟩ Ab
 . obtain rfl:j=xs.length:=by omega
   refine kR ?_;exact ⟨rfl,X⟩
set_option maxHeartbeats 8000000 in
def Vq (s:SV) (aq:s.small) (S S':nP) (a ta oa a' Y Z:oA) (c tc oc c' ad ae:Nat) (w:wD) (hs:s.sits S w a ta oa) (af:s.sits S' w a' Y Z) :
 Calls prog 32 #[.agg (s.row a c ta tc oa oc).toArray,.agg (s.row a' c' Y ad Z ae).toArray] w λe w'=>e = .returned (.bool true)/\Ext w w':=by
 have X:=iK w;obtain ⟨cells,aa,tout⟩:=s;have U:=hs.cells.ltA;have q2:=hs.tin;have q3:=hs.tout;have G:=af.cells.ltA;have N:=af.tin;have O:=af.tout;obtain ⟨m1,m2,m3,m4⟩:=aq;clear hs af;simp only at *;have HI:=gp (λw1 h h'=>SJ aa m3 S S' ta Y tc ad w1 h h');have HO:=gp (λw1 h h'=>SJ tout m4 S S' oa Z oc ae w1 h h');change Calls prog _ #[.agg #[.slice a cells.length c,.slice ta aa.length tc,.slice oa tout.length oc],.agg #[.slice a' cells.length c',.slice Y aa.length ad,.slice Z tout.length ae]] w _;refine Ad func32 ntmps32 rfl rfl (cS (eB [_,_,_] ?_));intro b1 w2 V x5 p6 z7;revert X U q2 q3 G N O;refine eE x5 ?_;intro X U q2 q3 G N O;refine eB [_,_,_] ?_;intro b8 w9 M ar a0 a1;revert V X U q2 q3 G N O;refine eE ar ?_;intro V X U q2 q3 G N O;refine kC (HI.out _ Af Af) ?_;rintro _ a2 ⟨⟨⟩,au⟩;revert M V X U q2 q3 G N O;refine eY au ?_;intro a3 M V X U q2 q3 G N O;refine kC (HO.out _ Af Af) ?_;rintro _ a4 ⟨⟨⟩,av⟩;revert M V X U q2 q3 G N O;refine eY av ?_;intro a5 M V X U q2 q3 G N O;refine A1 rfl rfl rfl (rfl) (C1 Pt (C1 (Bm rfl rfl rfl) (cT (AY rfl (Ao (Ai (Aj (cS (C1 Pa (cT ?_))))))))));refine As ?_;refine AG (ι:=Nat) (λj=>[(2,.pointer (some ⟨b1,0,none⟩)),(3,.pointer (some ⟨b8,0,none⟩)),(5,.int .i64 j)])
  (λj w'=>j<=cells.length/\Blk w' b1 [.slice a cells.length c,.slice ta aa.length tc,.slice oa tout.length oc]/\Blk w' b8 [.slice a' cells.length c',.slice Y aa.length ad,.slice Z tout.length ae]/\ICs (· < w.heap.size) w' cells a/\ICs (· < w.heap.size) w' cells a'/\Ext w w') (λj=>cells.length-j) 0 sB ⟨gC _,V,M,U,G,X⟩ ?_
 clear V M U G q2 N q3 O X HI HO;rintro j w1 ⟨hj,V,M,U,G,X⟩;by_cases ab:j<cells.length
 . obtain ⟨kb,ko,rfl,kS,hk⟩:=U.get (by intro e;subst e;simp at ab);obtain ⟨a6,a7,rfl,a8,ak⟩:=G.get (by intro e;subst e;simp at ab);obtain ⟨xa,xc,r1,v1⟩:=hk j _ (gm ab);obtain ⟨aw,ax,r2,v2⟩:=ak j _ (gm ab);have p1:=m2 _ (gA ab);clear hk ak;generalize cells[j]=x at *;have HP:=gp (λw1 h h'=>SJ x p1 (· < w.heap.size) (· < w.heap.size) xa aw xc ax w1 h h');refine eK ?_;refine Aq (λwz=>Ext w1 wz) 10 (.pure 0 (.pure 1 (.pure 2 (.pure 3 (.pure 4 (.pure 5 (.pure 6 (.pure 7 (.pure 8 (.pure 9 .tail)))))))))) mixed AT (Aa (Ae (Aa (Aa (Ae (Aa Ag)))))) ?_;intro ay al _;have ac:(λwz=>Ext w1 wz) ay:=al;simp only at ac;have am:=V;have an:=U;have ai:=M;have aj:=G;have ag:=r1;have ao:=v1;have ah:=r2;have ap:=v2;revert X V U M G r1 v1 r2 v2;refine eY al ?_;intro a9 X V U M G r1 v1 r2 v2;refine ⟨ac,?_⟩;refine eT ?_;refine Tq rfl (Ap Ac rfl rfl rfl (λwz hz=>iT (iO ag hz) rfl)) (eT ?_);refine Tq rfl (Ap Ac rfl rfl rfl (λwz hz=>iT (iO ah hz) rfl)) ?_;clear ac am an ai aj ag ao ah ap;refine At rfl (cC rfl (HP.out _ Af Af) ?_);rintro _ ba ⟨⟨⟩,az⟩;revert X V U M G r1 v1 r2 v2;refine eY az ?_;intro bb X V U M G r1 v1 r2 v2;refine C1 Pt (cT (AY rfl (Ao (Ah (Ai (Al (C1 Mv (C1 V7 (C1 Pa (Ak ?_))))))))))
   exact Aw (j+1) sB ⟨Ab,V,M,U,G,X⟩ Ab
 . obtain rfl:j=cells.length:=by omega
   refine kR ?_;exact ⟨rfl,X⟩
set_option maxHeartbeats 8000000 in
def cH (v:VdV) (Y:v.st.small) (S S':nP) (a ta oa Z G M:oA) (c tc oc c' O U:Nat) (w:wD) (hs:v.st.sits S w a ta oa) (N:v.st.sits S' w Z G M) :
 Calls prog 15 #[.agg (v.row a c ta tc oa oc).toArray,.agg (v.row Z c' G O M U).toArray] w λe w'=>e = .returned (.bool true)/\Ext w w':=by
 have X:=iK w;obtain ⟨ok,tr,⟨cells,V,tout⟩,er⟩:=v;have HE:=gp (λw1 h h'=>Vq ⟨cells,V,tout⟩ Y S S' a ta oa Z G M c tc oc c' O U w1 h h');simp only at *;clear Y;change Calls prog _ #[.agg #[.bool ok,.int .i64 tr,.slice a cells.length c,.slice ta V.length tc,.slice oa tout.length oc,.int .i64 er],.agg #[.bool ok,.int .i64 tr,.slice Z cells.length c',.slice G V.length O,.slice M tout.length U,.int .i64 er]] w _;refine Ad func15 ntmps15 rfl rfl (cS (eB [_,_,_,_,_,_] ?_));intro b1 w2 h4 x5 _ _;revert X hs N;refine eE x5 ?_;intro X hs N;refine eB [_,_,_,_,_,_] ?_;intro b8 w9 ac aa _ _;revert h4 X hs N;refine eE aa ?_;intro h4 X hs N;refine eK ?_;refine C1 (XW Ac rfl rfl rfl) (kC (HE.out _ Af Af) ?_);rintro _ ad ⟨⟨⟩,ab⟩;have X:=X.ext ab;refine kR ?_;exact ⟨rfl,X⟩
def Rp (s n:Bv) (p:PG) (N:oA) (vc:Nat) (O:oA) (U:Nat) (V:oA) (Y:Nat) (w:wD) :
 Calls prog 14 #[.pointer none,str s,str n,.agg (p.cells N vc O U V Y).toArray] w λe w'=>e = .returned (.tuple #[.agg (VdV.zero.row none 0 none 0 none 0).toArray,.int .i64 1])/\Ext w w':=by
 have X:=iK w;refine Ad func14 ntmps14 rfl rfl (cS (eB [_,_,_,_,_,_] ?_));intro b1 w2 _ Z p6 z7;have X:=X.ext Z;refine eA [_,_,_,_,_,_] ?_;intro b8 w9 h G aa ab;have X:=X.ext G;refine eK ?_;refine C1 (FQ Ac rfl rfl) (eK ?_);refine C1 (xB [_,_,_,_,_,_]) (eS [_,_,_,_,_,_] h ?_);intro ac ad M ae;have X:=X.fr M Ab;refine eK ?_;refine CU rfl Ac rfl rfl rfl Af rfl rfl ?_;exact ⟨rfl,X⟩
def Rq (s:Bv) (w:wD):Calls prog 16 #[.pointer none,str s] w λe w'=>e = .returned (.int .i64 0)/\Ext w w':=by
 have X:=iK w;refine Ad func16 ntmps16 rfl rfl (eK ?_);refine C1 (FQ Ac rfl rfl) (kR ?_);exact ⟨rfl,X⟩
def M3 (s n:Bv) (w:wD):Calls prog 17 #[.pointer none,str s,str n] w λe w'=>e = .returned (.int .i64 0)/\Ext w w':=by
 have X:=iK w;refine Ad func17 ntmps17 rfl rfl (eK ?_);refine C1 (FQ Ac rfl rfl) (kR ?_);exact ⟨rfl,X⟩
def M4 (w:wD):Calls prog 18 #[.pointer none] w λe w'=>e = .returned (.slice none 0 0)/\Ext w w':=by
 have X:=iK w;refine Ad func18 ntmps18 rfl rfl (eK ?_);refine C1 (FQ Ac rfl rfl) (kR ?_);exact ⟨rfl,X⟩
def OZ (w:wD):Calls prog 19 #[.pointer none] w λe w'=>e = .returned (.slice none 0 0)/\Ext w w':=by
 have X:=iK w;refine Ad func19 ntmps19 rfl rfl (cS (eB [_] ?_));intro G M N h _ _;have X:=X.ext h;refine eK ?_;refine C1 (FQ Ac rfl rfl) (kR ?_);exact ⟨rfl,X⟩
def SK (w:wD):Calls prog 15 #[.agg #[.bool false,.int .i64 0,.slice none 0 0,.slice none 0 0,.slice none 0 0,.int .i64 0],.agg #[.bool false,.int .i64 0,.slice none 0 0,.slice none 0 0,.slice none 0 0,.int .i64 0]] w λe w'=>e = .returned (.bool true)/\Ext w w':=
 cH VdV.zero Fg (λ_=>True) (λ_=>True) none none none none none none 0 0 0 0 0 0 w Fz Fz
def cI (s n:Bv) (p:PG) (Z:oA) (vc:Nat) (pa:oA) (pc:Nat) (ma:oA) (mc:Nat) (w:wD) :
 Calls prog 4 #[str s,str n,.agg (p.cells Z vc pa pc ma mc).toArray] w λe w'=>e = .returned (.bool true)/\Ext w w':=by
 have X:=iK w;have HS:=gp (λw1=>Rp s n p Z vc pa pc ma mc w1);refine Ad func4 ntmps4 rfl rfl (cS (eB [_,_,_,_,_,_] ?_));intro b1 w2 h4 x5 _ _;have X:=X.ext x5;refine kC (Gt _) ?_;rintro _ w9 ⟨⟨⟩,x8⟩;revert h4 X;refine eE x8 ?_;intro h4 X;refine kC (HS.out _) ?_;rintro _ aa ⟨⟨⟩,h⟩;have X:=X.ext h;refine eK ?_;refine xA [_,_,_,_,_,_] ?_;intro ab ac G;refine eI [_,_,_,_,_,_] G ?_;intro ad ae M _ _;have X:=X.ext M;refine eK ?_;refine C1 (xB [_,_,_,_,_,_]) (G2 (cC rfl (SK _) ?_));rintro _ af ⟨⟨⟩,N⟩;have X:=X.ext N;refine kC (Rq _ _) ?_;rintro _ ag ⟨⟨⟩,O⟩;have X:=X.ext O;refine kC (M3 _ _ _) ?_;rintro _ ah ⟨⟨⟩,U⟩;have X:=X.ext U;refine kC (M4 _) ?_;rintro _ ai ⟨⟨⟩,V⟩;have X:=X.ext V;refine kC (OZ _) ?_;rintro _ aj ⟨⟨⟩,Y⟩;have X:=X.ext Y;refine kR ?_;exact ⟨rfl,X⟩
end Bk
namespace Bk
open Go Go.RowKit Go.Proofs
def None_d (s n:Bv) (p:PG) (G:oA) (vc:Nat) (h:oA) (N:Nat) (M:oA) (O:Nat) (w:wD) (_:s.length<=9223372036854775807) (_:n.length<=9223372036854775807) (_:p.wf) (_:p.sits DF w G h M) (_:PDsC DF w p.procs h) (_:p.vars.length<=vc) :
 Calls prog 4 #[str s,str n,.agg (p.cells G vc h N M O).toArray] w λe w'=>e = .returned (.bool true)/\Ext w w':=cI s n p G vc h N M O w
end Bk
