/- Texts that the proofs of GradebookNone, GradebookFull, GradebookNew, GradebookRanks, GradebookApart need. No condition. (Part 8 of 13.) -/
import Derived.Test.YteiiipaobncfgaaGreatPGua7
set_option linter.unusedSimpArgs false
set_option linter.unusedVariables false
set_option linter.defProp false
set_option maxRecDepth 100000
set_option maxHeartbeats 4000000
open Go.Proofs.Tryz
open List renaming getElem?_eq_getElem->gm,take_succ_eq_append_getElem->gx,getElem_mem->gA,length_cons->gD,take_length->gF,getElem?_eq_none->gG,getElem?_append_left->gJ,length_append->gO,replicate->gT,getElem?_append_right->gU,getElem?_map->gV,drop_eq_getElem_cons->gW,getElem?_cons_zero->gX,getD_eq_getElem?_getD->gY,append_assoc->gZ,length_nil->hH,mem_singleton->ia,length_take->ij,mem_cons->ik,map_cons->im,mem_of_getElem?->io,range->it,getElem?_set_ne->iF,not_mem_nil->iH
open Go.Lib renaming hid->gp
open Or renaming inl->gq,inr->gt
open Bool renaming and_eq_true->gu,false_eq_true->iE
open Go.Result renaming andThen->gw
open Option.some renaming injEq->gy,inj->gB
open Go.IntWalk renaming i64_in->gz
open Nat renaming zero_le->gC,le_refl->gI,lt_or_ge->gK,blt->gM,le_of_ble_eq_true->gS,eq_of_beq_eq_true->ip,zero_add->iu,ble->iy,beq->iA
open Go.Sem renaming run_bind->gE,run_pure->gP
open Go renaming Calls->gH
open Except renaming bind->gL
open Go.Value renaming slice->gN,int->ii,ownBlock->iI
open Go.Region renaming ready->gQ,binds->iw
open Go.Value.slice renaming injEq->gR
open Go.DataW renaming trod->ic
open List.cons renaming injEq->ig
open Go.Builtin renaming zeroCells->iq
open Go.Calls renaming mono->ir
open Array renaming getElem?_eq_none->iv,replicate->iD
open Go.Oper renaming wp->iB
open Go.Addr renaming add->iC
open Go.IntKind renaming wrap->iG
open Go.Op renaming equalIn->iJ
open Bk.Ext renaming refl->iK,fr->iY
open Bk.Fr renaming of_ext->iM,refl->iP,fr->iU
open Bk.Blk renaming fr->iN
open Bk.Row renaming ext->iO,at0->iT
open Bk.Arr renaming get->i9
open Bk.EX renaming cells->jg
open Bk.Nd renaming sits->jk
open Bk.CW renaming sub->jl
open Bk.VdV renaming zero->jo
namespace Bk
open Go Go.RowKit Go.Proofs
attribute [local irreducible] Go.Calls
variable {G M j:Nat} {w w':wD} {es:List EX} {e:Ending} {S:nP} {cs:lV} {c:Value} {H:Type} {a:oA} {xs:List Bv} {k:Int} {n:Bv}
abbrev VdV.row (v:VdV) (a:oA) (c:Nat) (ta:oA) (tc:Nat) (oa:oA) (oc:Nat):lV:=[.bool v.ok,.int .i64 v.tried,.slice a v.st.cells.length c,.slice ta v.st.tin.length tc,.slice oa v.st.tout.length oc,.int .i64 v.err]
def VdR (r:VdV×Int) (w:wD):Ending->wD->Prop:=λe w'=> ∃a c ta tc oa oc,e = .returned (.tuple #[.agg (r.1.row a c ta tc oa oc).toArray,.int .i64 r.2])/\r.1.st.sits (λb=>w.heap.size<=b/\b<w'.heap.size) w' a ta oa/\r.1.st.small/\Ext w w'
def VdR.ret {r:VdV×Int} (h:VdR r w e w'):∃v,e = .returned v:=by
 obtain ⟨_,_,_,_,_,_,h,-⟩:=h;exact ⟨_,h⟩
def Fz:(⟨[],[],[]⟩:SV).sits S w none none none:=⟨gq rfl,gq rfl,gq rfl⟩
def Fg:(⟨[],[],[]⟩:SV).small:=⟨AN,AN,AN,AN⟩
def dU {e:EX} (h:e.valid):e.fuel=(e.fuel.toNat:Int):=by have:=h.1.2.2;omega
set_option maxHeartbeats 8000000 in
def ZA (e:EX) (hw:e.wf) (d2:e.fuel<=10000) (p:PG) (hp:p.wf) (b9:p.vars.length<=1000000) (S:nP) (va:oA) (vc:Nat) (pa:oA) (pc:Nat) (ma:oA) (mc:Nat) (am:oA) (au:Nat) (ac:oA) (a0:Nat) (an:oA) (a1:Nat) (w:wD)
 (hs:e.sits S w va pa ma vc) (G:p.sits S w am ac an) (M:PDsC S w p.procs ac) (bk:p.vars.length<=au) :
 Calls prog 24 #[.agg (e.cells va vc pa pc ma mc).toArray,.agg (p.cells am au ac a0 an a1).toArray] w (VdR (BU e p) w):=by
 have X:=iK w;replace hs:=hs.ltA;replace G:=G.ltA;replace M:=M.ltA;have HA:=gp (λw1 h1 h2 h3=>Zw e hw p hp b9 (· < w.heap.size) va vc pa pc ma mc am au ac a0 an a1 w1 h1 h2 h3 bk);by_cases hv:ED e p=0
 . obtain ⟨bd,bl,be⟩:=U7 (Zv p) hv;obtain ⟨f,bm⟩:∃f:Nat,e.fuel=(f:Int):=⟨_,dU bd⟩
   have cb:e.fuel.toNat=f:=by omega
   have hg:BU e p=(Xg e.g p e.fuel.toNat (MY e.g.vars e.box) 0,0):=AB (λh=>h hv);have Z:=hs.g.vars;rw [hg,cb];rw [hv] at HA;have a8:=gp (λw1 h=>dR e.g.vars hw.few e.box (· < w.heap.size) va vc w1 h);have HC:=gp (λ(s t:SV) (h1:FitsP p.vars s) (h2:t.small) (S1 S2 S3 S4:nP) ca ta oa ca' ta' oa' cc tc oc cc' tc' oc' w1 (h3:p.sits S1 w1 am ac an) (h4:PDsC S2 w1 p.procs ac) (h5:s.sits S3 w1 ca ta oa) (h6:t.sits S4 w1 ca' ta' oa')=>Vc e f bm Ab p hp bl s t h1 h2 (λ_=>True) va vc pa pc ma mc am au ac a0 an a1 ca ta oa ca' ta' oa' cc tc oc cc' tc' oc' w1 (h3.wide λ_ _=>trivial) (h4.wide λ_ _=>trivial) bk (h5.wide λ_ _=>trivial) (h6.wide λ_ _=>trivial));have HF:=gp (λ(s:SV) (h1:FitsP e.g.vars s) (S1 S2 S3:nP) ca ta oa cc tc oc w1 (h3:e.g.sits S1 w1 va pa ma) (h4:PDsC S2 w1 e.g.procs pa) (h5:s.sits S3 w1 ca ta oa)=>show Calls prog 48 #[.agg (e.g.cells va vc pa pc ma mc).toArray,.agg (s.row ca cc ta tc oa oc).toArray,.int .i64 e.fuel] _ (ResR (EU e.g s f) w1) from bm▸NQ e.g hw.g bd.2.1.1 bd.2.1.2.1 s h1 f Ab _ (ON e.g s f) (λ_=>True) va vc pa pc ma mc ca ta oa cc tc oc w1 (h3.wide λ_ _=>trivial) (h4.wide λ_ _=>trivial) hs.room (h5.wide λ_ _=>trivial));have HK:=gp (λ(s:SV) h1=>Xm (g:=e.g) (s:=s) h1 f);have HA:=gp (λw1 h1 cd h2 h3=>HA.out w1 ⟨h1,cd,hs.room⟩ h2 h3)
   have N:=hs.g;have O:=hs.p;clear hs hg hv;unfold jg at *;refine Gk (args:=[_,_]) func24 ntmps24 rfl rfl (cS (eB [_,_,_,_,_,_,_,_,_,_,_,_] ?_));intro b1 w2 h4 x5 p6 z7;revert X G M Z N O;refine eE x5 ?_;intro X G M Z N O;refine eB [_,_,_,_,_,_] ?_;intro b8 w9 V ce d3 d4;revert h4 X G M Z N O;refine eE ce ?_;intro h4 X G M Z N O;refine eA [_,_,_,_,_,_] ?_;intro av d5 ad cf d6 z22;revert V h4 X G M Z N O;refine eE cf ?_;intro V h4 X G M Z N O;refine eA [_] ?_;intro a2 d7 af cg d8 d9;revert ad V h4 X G M Z N O;refine eE cg ?_;intro ad V h4 X G M Z N O;refine eK ?_;refine A3 [_,_,_,_,_,_,_,_,_,_,_,_] Ac rfl rfl rfl h4 rfl rfl rfl (A3 [_,_,_,_,_,_] Ac rfl rfl rfl V rfl rfl rfl (cC rfl (HA.out _ Af Af Af Af) ?_));rintro _ ea ⟨⟨⟩,ch⟩;revert af ad V h4 X G M Z N O;refine eY ch ?_;intro eb af ad V h4 X G M Z N O;refine eK ?_;refine En [_] Cs rfl rfl ?_;intro bf ec ci;refine eI [_] ci ?_;intro cj a3 ck ed ee;revert af ad V h4 X G M Z N O;refine eE ck ?_;intro af ad V h4 X G M Z N O;refine kQ (a8.out _ Af) ?_;rintro _ a4 ⟨cz,c0,c1,⟨⟩,bn,bo⟩;have ef:=bo.size;revert a3 af ad V h4 X G M N O;refine eE bo ?_;intro a3 af ad V h4 X G M N O;refine cT ?_
   have l4:=af.lt;generalize cl:MY e.g.vars e.box=S' at *;refine As ?_;refine Vf rfl rfl AT bn (λ_ _ _ _ h=>dQ h) (λk hk=>hk.2)
    (λA xs W=> ∃n,Xg e.g p f S' 0=Xg e.g p f (S'.drop xs.length) n/\Blk W bf [.int .i64 n]/\Blk W a2 [.int .i64 0]/\Blk W av [.bool false,.int .i64 0,.slice none 0 0,.slice none 0 0,.slice none 0 0,.int .i64 0]/\Blk W b8 (p.cells am au ac a0 an a1)/\Blk W b1 (e.cells va vc pa pc ma mc)/\e.g.sits (· < w.heap.size) W va pa ma/\PDsC (· < w.heap.size) W e.g.procs pa/\p.sits (· < w.heap.size) W am ac an/\PDsC (· < w.heap.size) W p.procs ac/\Ext w W)
    (λA xs W=> ∃(s:SV) (n er:Int) (a:oA) (c:Nat) (ta:oA) (tc:Nat) (oa:oA) (oc:Nat),Xg e.g p f S' 0=⟨false,n,s,er⟩/\Blk W av [.bool false,.int .i64 n,.slice a s.cells.length c,.slice ta s.tin.length tc,.slice oa s.tout.length oc,.int .i64 er]/\Blk W a2 [.int .i64 0]/\s.sits (λb=>w.heap.size<=b /\ ¬A b/\b<W.heap.size) W a ta oa/\s.small/\Ext w W) ?_ ?_ ?_ ?_ ?_ ?_
   . rintro A A' xs W W' ⟨n,g1,g2,g3,g4,g5,g6,g7,g8,g9,bp,x⟩ hf hA - -;have ho:∀b,b<w.heap.size -> ¬A b:=λb hb h=>by have:=hA b h;omega
     exact ⟨n,g1,g2.fr hf (λe=>by have:=hA _ e;omega),g3.fr hf (λe=>by have:=hA _ e;omega),g4.fr hf (λe=>by have:=hA _ e;omega),g5.fr hf (λe=>by have:=hA _ e;omega),g6.fr hf (λe=>by have:=hA _ e;omega),g7.fr hf ho,g8.fr hf ho,g9.fr hf ho,bp.fr hf ho,iY x hf (λk hk=>by have:=hA _ hk;omega)⟩
   . rintro A A' xs W W' ⟨s,n,er,a,c,ta,tc,oa,oc,g1,g2,g3,g4,g5,x⟩ hf hA-cm;exact ⟨s,n,er,a,c,ta,tc,oa,oc,g1,g2.fr hf (λe=>by have:=hA _ e;omega),g3.fr hf (λe=>by have:=hA _ e;omega),(g4.fr hf (λb hb=>hb.2.1)).wide (λb hb=>⟨hb.1,λh=>hb.2.1 (cm b hb.2.2 h),by have:=hf.size;omega⟩),g5,iY x hf (λk hk=>by have:=hA _ hk;omega)⟩
   . exact ⟨0,AN,a3,af,ad,V,h4,N,O,G,M,X⟩
   . rintro r A pre x u W hA cn ⟨n,j1,j2,j3,j4,j5,j6,j7,j8,j9,U,x0⟩ ⟨ca,cc,ta,tc,oa,oc,eu,sx⟩ ap;simp only [ig,and_true] at eu;subst eu;have a9:x∈S':=by obtain ⟨q,hq⟩:=ap;rw [<-hq];simp
     have aw:S'.drop pre.length=x::S'.drop (pre++[x]).length:=by obtain ⟨q,hq⟩:=ap;rw [<-hq];simp
     rw [aw] at j1;have Y:FitsP e.g.vars x:=US x (by rw [cl];exact a9);have a5:=HK.out x Y;have bq:=gp (HF.out x Y);have co:=gp (λS a ta oa c tc oc w1 h=>J6 x S a ta oa c tc oc w1 Y.small.few Y.small.each Y.small.tin Y.small.tout h);have cp:=Y.small;have bg:=gp (HC.out _ x (by rw [be];exact a5) Y.small);clear bn a3 af ad V h4 N O G M X HA a8 HK HF HC ap aw a9 a5;have eg:=hA _ cn;have X1:=iK W;obtain ⟨xc,xi,xo⟩:=x;unfold jg at *;refine Bp rfl Gl (En [_,_,_] Cs rfl rfl ?_);intro eh ei ar;refine Dq [_,_,_] Ac rfl rfl rfl rfl rfl rfl ar rfl ?_;intro ej ar;have aa:=ar.blk;dsimp only at aa;have cq:=ar.ext;have ek:=ar.pos;have el:=ar.size;revert j2 j3 j4 j5 j6 j7 j8 j9 U x0 X1 sx;refine eE cq ?_;intro j2 j3 j4 j5 j6 j7 j8 j9 U x0 X1 sx;refine Ak (Ij (Keeps.of_ext X1) λW2 f2=>?_)
     revert aa j2 j3 j4 j5 j6;refine eF f2 ?_;intro aa j2 j3 j4 j5 j6;replace j7:=j7.fr f2 (λb hb e=>by omega);replace j8:=j8.fr f2 (λb hb e=>by omega);replace j9:=j9.fr f2 (λb hb e=>by omega);replace U:=U.fr f2 (λb hb e=>by omega);replace x0:=iY x0 f2 (λk hk=>by omega);replace sx:=sx.fr f2 (λb hb e=>by omega);have em:=f2.size;have br:=gp (show ∀k,A k->a4.heap.size<=k/\k<W2.heap.size from λk hk=>by have:=hA k hk;omega);clear X1 f2 hA;have X3:=iP (λk=>k=bf\/k=av\/k=a2) W2;have hK:∀k,A k\/(cj.heap.size<=k/\k<a4.heap.size) -> ¬(k=bf\/k=av\/k=a2):=λk hk h=>by
      rcases hk with hk|hk
      . have:=br.out k hk;omega
      . omega
     have bh:=gp hK;clear hK;rw [Q0] at j1;generalize EU e.g ⟨xc,xi,xo⟩ f=gv at *;obtain ⟨⟨gc,gi,go⟩,gn,ge⟩:=gv;simp only at j1 bg bq;refine Gj (C9 (Bp rfl (Bt (Bw BV)) (kQ (bq.out _ _ _ _ _ _ _ _ _ _ Af Af Af) ?_)));rintro _ c2 ⟨en,eo,c3,c4,c5,c6,⟨⟩,a6,ep,cr⟩;revert aa j2 j3 j4 j5 j6 j7 j8 j9 U x0 sx X3;refine eY cr ?_;intro c7 aa j2 j3 j4 j5 j6 j7 j8 j9 U x0 sx X3;refine En [_,_,_,_,_] Cs rfl rfl ?_;intro c8 c9 ae;refine Dq [_,_,_,_,_] Ac rfl rfl rfl rfl rfl rfl ae rfl ?_;intro da ae;have ah:=ae.blk;dsimp only at ah;have bs:=ae.ext;have db:=ae.pos;have dc:=ae.size;revert a6 aa j2 j3 j4 j5 j6 j7 j8 j9 U x0 sx X3;refine eE bs ?_;intro a6 aa j2 j3 j4 j5 j6 j7 j8 j9 U x0 sx X3;refine Ak (Cl (C9 ?_));by_cases bt:ge=0
     . subst bt;rw [AB AN] at j1;generalize EU p ⟨gc,gi,go⟩ f=rv at *;obtain ⟨rs,rn,re⟩:=rv;simp only at j1 bg
       focus
        refine C9 (Bp rfl (Bt (Bt (Bw BV))) (C1 Pf (C1 (Pl ah) (C1 V2 (Ak (Cl (ZS rfl CH (FN (Cl (C9 (Bp rfl (Bt (Bw BV)) (C1 (Pl j2) (C1 (Ia rfl rfl rfl) (eS [_] j2 ?_))))))))))))));intro eq a7 ag et;revert aa j3 j4 j5 j6;refine eF ag ?_;intro aa j3 j4 j5 j6;replace j7:=PG.sits.fr j7 ag (λb hb h=>by omega);replace j8:=PDsC.fr j8 ag (λb hb h=>by omega);replace j9:=PG.sits.fr j9 ag (λb hb h=>by omega);replace U:=PDsC.fr U ag (λb hb h=>by omega);replace x0:=x0.fr ag Ab;replace sx:=SV.sits.fr sx ag (λb hb h=>by omega);revert X3 ah;refine eF ag ?_;intro X3 ah;replace a6:=SV.sits.fr a6 ag (λb hb h=>by omega);refine Ak (Cl (C9 (Bp rfl (Bt (Bw BV)) (A3 [_,_,_,_,_,_,_,_,_,_,_,_] Ac rfl rfl rfl j6 rfl rfl rfl (eK ?_)))));refine Ax (AR AT rfl (bg.out _ _ _ _ _ _ _ _ _ _ _ _ _ _ _ _ _ Af Af Af Af) (λ_ _ ⟨_,h⟩=>⟨_,h.1⟩)) rfl ?_ aFh;rintro _ bu ⟨ew,⟨⟩,bv,ct⟩;revert a7 aa j3 j4 j5 j6 j7 j8 j9 U x0 sx X3;refine eY ct ?_;intro dd a7 aa j3 j4 j5 j6 j7 j8 j9 U x0 sx X3;refine C1 Mv (C1 Px (C1 Px (C1 Pa (C1 Pa (Ak (Cl (C9 (Bp rfl (Bt (Bw BV)) (C1 Mv (C1 Pt (Ak (Cl (Wk rfl (λaq=>?_) (λaq=>?_))))))))))))));refine C9 (XD (λwz=>Ext bu wz) 4 (.pure 0 (.pure 1 (.pure 3 (.fork 2 .tail .none)))) mixed AT (Aa (Ae MZ)) (Bt (Bw BV)) ?_);intro bw ba _;have ab:(λwz=>Ext bu wz) bw:=ba;simp only at ab;have bi:=a7;have bj:=aa;revert j3 j4 x0 sx X3;refine eY ba ?_;intro de j3 j4 x0 sx X3;refine ⟨ab,?_⟩;refine Tq rfl (Db bi) (Tq rfl (BP [_,_,_] Ac rfl rfl rfl (λwz hz=>(Blk.ext bj hz)) rfl rfl) (Tq rfl Mv (AE rfl (AR AT rfl (co.out _ _ _ _ _ _ _ _ Af) (λ_ _ h=>h.ret)) rfl ?_ aFh AD)));rintro _ df ⟨dg,dh,cu,cv,cw,cx,⟨⟩,ai,bx⟩;revert ab j3 j4 x0 X3;refine eE bx ?_;intro ab j3 j4 x0 X3;refine ⟨ab,?_⟩;refine At rfl (C1 (DR [_,_,_,_,_,_] Ac Cs rfl rfl rfl rfl) (eS [_,_,_,_,_,_] j4 ?_));intro di ax bb dk;replace ai:=SV.sits.fr ai bb (λb hb h=>by omega);revert j3 x0 X3;refine eF bb ?_;intro j3 x0 X3;refine eS [_] j3 ?_;intro dl bz ay dm;replace ax:=ax.fr ay Ab;replace ai:=SV.sits.fr ai ay (λb hb h=>by omega)
        revert x0 X3;refine eF ay ?_;intro x0 X3;refine Ak (Cl (We (AJ ?_)));rotate_left;refine FN (Ah ?_);rotate_left
       . rw [AB (λh=>by rw [bv.2 h] at aq;cases aq)] at j1;have:=X3.size;exact Wi (Keeps.of_fr X3 bh.out) ⟨⟨xc,xi,xo⟩,_,re,_,_,_,_,_,_,j1,ax,bz,ai.wide (λb hb=>⟨Ab,λh=>by have:=(br.out b h).2;omega,Ab⟩),cp,x0⟩
       . rw [AQ (bv.1 aq)] at j1;exact IT (Keeps.of_fr X3 bh.out) ⟨_,j1,a7,j3,j4,j5,j6,j7,j8,j9,U,x0⟩
     . rw [AQ bt] at j1;refine C9 (Bp rfl (Bt (Bt (Bw BV))) (C1 Pf (C1 (Pl ah) (C1 V2 (Ak (Cl (Wj rfl Af (Ys (Av (AO ?_))))))))));exact IT (Keeps.of_fr X3 bh.out) ⟨n,j1,j2,j3,j4,j5,j6,j7,j8,j9,U,x0⟩
   . rintro A W hA ⟨n,g1,g2,g3,g4,g5,g6,g7,g8,g9,bp,x⟩ hm hk;rw [List.drop_length] at g1;rw [g1];have b0:a4.heap.size<W.heap.size:=(Array.getElem?_eq_some_iff.1 hk).1;refine Ik (Dw (Ig (Eu (Fs (Ap Ac rfl rfl rfl (λwz hz=>by rw [show wz=W from hz];exact g2.cell rfl)) rfl (Fs (DR [.bool true,.int .i64 n,.slice none 0 0,.slice none 0 0,.slice none 0 0,.int .i64 0] Ac Cs rfl rfl rfl rfl) rfl
      (Vh XB (Do (us:=[_,_,_,_,_,_]) Ac rfl rfl rfl rfl rfl rfl g4 rfl) (λ_ _ h=>h) λw1 hp=>?_))))))
     have az:Put W w1 av [.bool true,.int .i64 n,.slice none 0 0,.slice none 0 0,.slice none 0 0,.int .i64 0]:=hp;have a5:w1.heap[a4.heap.size]? = some (.deferred (some [])):=(az.fr.block _ b0 (λh=>by omega)).trans hk;refine JX Ac rfl rfl rfl rfl rfl (g3.fr az.fr Ab) λw2 h2 f2=>GO (Dw (Jr (XA ((f2.block _ (by rw [az.size];exact b0) (λh=>by omega)).trans a5) λw3 f3=>MJ rfl Ac rfl rfl rfl rfl rfl rfl ((az.blk.fr f2 Ab).fr f3 Ab) (h2.fr f3 Ab) rfl ?_)))
     exact ⟨none,0,none,0,none,0,rfl,Fz,Fg,iY (iY (iY x az.fr (λk hk=>by omega)) f2 (λk hk=>by omega)) f3 (λk hk=>by omega)⟩
   . rintro A pre W hA ap ⟨s,n,er,a,c,ta,tc,oa,oc,g1,g2,g3,g4,g5,x⟩ hm hk;rw [g1];refine Iy (Js (XA hk λw3 f3=>MJ rfl Ac rfl rfl rfl rfl rfl rfl (g2.fr f3 Ab) (g3.fr f3 Ab) rfl ?_));exact ⟨a,c,ta,tc,oa,oc,rfl,(g4.fr f3 (λb hb e=>hb.2.1 (e▸hm))).wide (λb hb=>⟨hb.1,by have:=f3.size;omega⟩),g5,iY x f3 (λk hk=>by omega)⟩
 . have hg:BU e p=(jo,ED e p):=AQ hv;rw [hg];generalize ED e p=k at *;clear hg hp hw;unfold jg at *;refine Gk (args:=[_,_]) func24 ntmps24 rfl rfl (cS (eB [_,_,_,_,_,_,_,_,_,_,_,_] ?_));intro ex ey ao cy ez e0;revert X hs G M;refine eE cy ?_;intro X hs G M;refine eB [_,_,_,_,_,_] ?_;intro e1 e2 aj b2 dn dp;revert ao X hs G M;refine eE b2 ?_;intro ao X hs G M;refine eA [_,_,_,_,_,_] ?_;intro dq dr ak b3 ds dt;revert aj ao X hs G M;refine eE b3 ?_;intro aj ao X hs G M;refine eA [_] ?_;intro du dv al b4 dw dx;revert ak aj ao X hs G M;refine eE b4 ?_;intro ak aj ao X hs G M;refine eK ?_;refine A3 [_,_,_,_,_,_,_,_,_,_,_,_] Ac rfl rfl rfl ao rfl rfl rfl (A3 [_,_,_,_,_,_] Ac rfl rfl rfl aj rfl rfl rfl (cC rfl (HA.out _ Af Af Af) ?_));rintro _ dy ⟨⟨⟩,b5⟩;revert al ak X;refine eE b5 ?_;intro al ak X;refine eK ?_;refine C1 (DR [_,_,_,_,_,_] Ac Cs rfl rfl rfl rfl) (C1 Mv (eS [_,_,_,_,_,_] ak ?_));intro dz bc b6 _;revert al X;refine eF b6 ?_;intro al X;refine eS [_] al ?_;intro d0 d1 b7 _;revert bc X;refine eF b7 ?_;intro bc X;refine eK ?_;refine bQ (MJ rfl Ac rfl rfl rfl rfl rfl rfl Af Af rfl ?_);exact ⟨none,0,none,0,none,0,rfl,Fz,Fg,X⟩
noncomputable def Bz (es:List EX) (L:List AtV) (s n:Bv) (p:PG):(VdV×Int)×List AtV:=
 if Cj s=true then match Rs es n with
  | none=>((jo,21),L)
  | some i=>match es[i]? with
   | none=>((jo,21),L)
   | some e=>if (BU e p).2≠0 then ((jo,(BU e p).2),L) else (((BU e p).1,0),IW L s n (BU e p).1.ok)
 else ((jo,3),L)
def SubR (M X:nP) (bb:Nat) (es:List EX) (r:(VdV×Int)×List AtV) (w:wD):Ending->wD->Prop:=λe w'=> ∃a c ta tc oa oc,e = .returned (.tuple #[.agg (r.1.1.row a c ta tc oa oc).toArray,.int .i64 r.1.2])/\r.1.1.st.sits (λb=>w.heap.size<=b/\b<w'.heap.size) w' a ta oa/\r.1.1.st.small /\
 ∃M':nP,(∀k,M k->M' k)/\(∀k,M' k->M k\/(w.heap.size<=k/\k<w'.heap.size))/\BkAt M' X w' bb es r.2/\Fr M w w'
def SubR.ret {X:nP} {r:(VdV×Int)×List AtV} (h:SubR S X G es r w e w'):∃v,e = .returned v:=by
 obtain ⟨_,_,_,_,_,_,h,-⟩:=h;exact ⟨_,h⟩
def Io {X:nP} {L:List AtV} {v:VdV} {ta oa:oA} {c N:Nat} (U:BkAt S X w G es L) (x:Ext w w') (V:v.st.sits (λb=>w.heap.size<=b/\b<w'.heap.size) w' a ta oa) (Y:v.st.small) :
 SubR S X G es ((v,k),L) w (.returned (.tuple #[.agg (v.row a c ta N oa j).toArray,.int .i64 k])) w':=
 ⟨a,c,ta,N,oa,j,rfl,V,Y,S,λ_ h=>h,λ_ h=>gq h,U.ext x,iM x⟩
def Q4 {i:Nat} (h:Rs es n=some i):∃e,es[i]? = some e/\e.name=n/\ER es n=i:=by
 have G:=h;unfold Rs at h;obtain ⟨M,N,-⟩:=List.findIdx?_eq_some_iff_getElem.1 h;exact ⟨_,gm M,by simpa using N,by unfold ER;rw [G]⟩
set_option maxHeartbeats 8000000 in
def Q5 (M X:nP) (bb:Nat) (es:List EX) (ao:es.length<=1000) (L:List AtV) (s n:Bv) (ae:s.length<=9223372036854775807) (p:PG) (Z:Cj s=false\/Rs es n=none) (va:oA) (vc:Nat) (pa:oA) (pc:Nat) (ma:oA) (mc:Nat) (w:wD) (hb:BkAt M X w bb es L) :
 Calls prog 14 #[.pointer (some ⟨bb,0,none⟩),str s,str n,.agg (p.cells va vc pa pc ma mc).toArray] w (SubR M X bb es (Bz es L s n p) w):=by
 have G:=iK w;have HB:=gp hb;obtain ⟨ea,ec,r,V,h2,Y,-,-,-⟩:=hb;have HN:=gp (λw1=>JV s w1 ae);have HF:=gp (λw1 h h2=>OG bb es Ab n X ea ec (.map (some r)) w1 h rfl h2);cases hq:Cj s
 . have hv:Bz es L s n p=((jo,3),L):=by unfold Bz;rw [AB (by simp [hq])]
   rw [hv];rw [hq] at HN;clear HF;refine Ad func14 ntmps14 rfl rfl (cS (eB [_,_,_,_,_,_] ?_));intro b1 w2 _ x5 p6 z7;have G:=G.ext x5;refine eA [_,_,_,_,_,_] ?_;intro b8 w9 U af ap aq;have G:=G.ext af;refine eK ?_;refine C1 (Ee Ac rfl rfl) (kC (HN.out _) ?_);rintro _ ar ⟨⟨⟩,ag⟩;revert U G;refine eE ag ?_;intro U G;refine eK ?_;refine C1 (xB [_,_,_,_,_,_]) (eS [_,_,_,_,_,_] U ?_);intro au av f21 _;have G:=G.fr f21 Ab;refine eK ?_;refine CU rfl Ac rfl rfl rfl Af rfl rfl ?_;exact Io (v:=jo) HB.out G Fz Fg
 . have O:=Z.resolve_left (by simp [hq]);have hv:Bz es L s n p=((jo,21),L):=by unfold Bz;rw [AQ hq,O]
   have hi:ER es n = -1:=by unfold ER;rw [O]
   rw [hv];rw [hq] at HN;rw [hi] at HF;clear hi O Z;refine Ad func14 ntmps14 rfl rfl (cS (eB [_,_,_,_,_,_] ?_));intro aw ax _ ah ay az;revert G V Y;refine eE ah ?_;intro G V Y;refine eA [_,_,_,_,_,_] ?_;intro a0 a1 N aa ai aj;revert G V Y;refine eE aa ?_;intro G V Y;refine eK ?_;refine C1 (Ee Ac rfl rfl) (kC (HN.out _) ?_);rintro _ ak ⟨⟨⟩,ab⟩;revert N G V Y;refine eE ab ?_;intro N G V Y;refine kC (HF.out _ Af Af) ?_;rintro _ al ⟨⟨⟩,ac⟩;revert N G;refine eE ac ?_;intro N G;refine eK ?_;refine C1 (xB [_,_,_,_,_,_]) (eS [_,_,_,_,_,_] N ?_);intro am an ad _;have G:=G.fr ad Ab;refine eK ?_;refine CU rfl Ac rfl rfl rfl Af rfl rfl ?_;exact Io (v:=jo) HB.out G Fz Fg
def TD:Except Int Rn->Bool
 | .error e=>decide (e ≠ -1)
 | .ok _=>true
def Kj (g:PG) (s:SV) (f d:Nat):Except Int Rn:=AW (AI g.procs d) false g.main ⟨CG g.vars s g.vars.length,f⟩
def TE {g:PG} {s:SV} {f d:Nat} (h:TD (Kj g s f d)=true):EU g s f=I2 s f (Kj g s f d):=by
 unfold EU;have M:=ON g s f;generalize Classical.choose _=G at *;have N:Kj g s f d≠.error (-1):=λe=>by rw [e] at h;simp [TD] at h
 have O:=LeX.blockN (ps:=g.procs) (Nat.le_max_left G d) false g.main ⟨CG g.vars s g.vars.length,f⟩ M;have U:=LeX.blockN (ps:=g.procs) (Nat.le_max_right G d) false g.main ⟨CG g.vars s g.vars.length,f⟩ N;rw [<-O,U];rfl
def Sy (a b:SV):Bool:=decide (a.cells=b.cells)&&(decide (a.tin=b.tin)&&decide (a.tout=b.tout))
def sameSB_iff {a b:SV}:Sy a b=true↔a=b:=by
 obtain ⟨h,G,a3⟩:=a;obtain ⟨M,N,O⟩:=b;simp [Sy]
def dV (g p:PG) (f d:Nat):List SV->Option Bool
 | []=>some true
 | s::l=>
  if TD (Kj g s f d)=true then
   if (I2 s f (Kj g s f d)).err≠0 then dV g p f d l
   else if TD (Kj p (I2 s f (Kj g s f d)).st f d)=true then
    if (I2 (I2 s f (Kj g s f d)).st f (Kj p (I2 s f (Kj g s f d)).st f d)).err=0/\Sy (I2 (I2 s f (Kj g s f d)).st f (Kj p (I2 s f (Kj g s f d)).st f d)).st s=true then dV g p f d l
    else some false
   else none
  else none
def OS {g p:PG} {f d:Nat} {q:Bool}:∀(l:List SV) (n:Int),dV g p f d l=some q->(Xg g p f l n).ok=q
 | [],n,h=>by
  simp only [dV,gy] at h;rw [<-h];rfl
 | s::l,n,h=>by
  unfold dV at h;split at h
  . rename_i N;rw [Q0,TE N];split at h
    . rename_i M;rw [AQ M];exact OS l n h
    . rename_i M;rw [AB M];split at h
      . rename_i O;rw [TE O];split at h
        . rename_i G;rw [AQ ⟨G.1,sameSB_iff.1 G.2⟩];exact OS l _ h
        . rename_i G;rw [AB (λe=>G ⟨e.1,sameSB_iff.2 e.2⟩)];simpa using h
      . cases h
  . cases h
def pG (k:Int):PG:=⟨[⟨[120],1,0⟩],[],.mk 57 0 [] [.mk k 0 [] [.mk 2 0 [120] [],.mk 1 1 [] []]]⟩
def e50:EX:=⟨[105,110,99],5,9,⟨1,0,0⟩,pG 40⟩
def Kk:e50.valid:=of_decide_eq_true AT
def dW:ED e50 (pG 40)=0:=by
 have h:(pG 40).acc:=of_decide_eq_true AT;unfold ED;rw [AB (λh=>h Kk),AB (by rw [h.1,h.2.1];simp),h.2.2];exact AQ rfl
def dX:ED e50 (pG 41)=0:=by
 have h:(pG 41).acc:=of_decide_eq_true AT;unfold ED;rw [AB (λh=>h Kk),AB (by rw [h.1,h.2.1];simp),h.2.2];exact AQ rfl
def go40:(BU e50 (pG 40)).2=0/\(BU e50 (pG 40)).1.ok=false:=by
 unfold BU;rw [AB (λh=>h dW)];exact ⟨rfl,OS (d:=5) _ _ AT⟩
def go41:(BU e50 (pG 41)).2=0/\(BU e50 (pG 41)).1.ok=true:=by
 unfold BU;rw [AB (λh=>h dX)];exact ⟨rfl,OS (d:=5) _ _ AT⟩
def L50:List AtV:=[⟨[97,110,110],[105,110,99],false⟩,⟨[97,110,110],[105,110,99],true⟩,⟨[98,111,98],[105,110,99],true⟩]
def fF:Bz [e50] [] [97,110,110] [105,110,99] (pG 40)=(((BU e50 (pG 40)).1,0),L50.take 1):=by
 have G:Rs [e50] [105,110,99]=some 0:=by kernel_rfl
 unfold Bz;rw [AQ AT,G];show (if (BU e50 (pG 40)).2≠0 then _ else _)=_;rw [AB (λh=>h go40.1),go40.2];rfl
def fG:Bz [e50] (L50.take 1) [97,110,110] [105,110,99] (pG 41)=(((BU e50 (pG 41)).1,0),L50.take 2):=by
 have G:Rs [e50] [105,110,99]=some 0:=by kernel_rfl
 unfold Bz;rw [AQ AT,G];show (if (BU e50 (pG 41)).2≠0 then _ else _)=_;rw [AB (λh=>h go41.1),go41.2];rfl
def fH:Bz [e50] (L50.take 2) [98,111,98] [105,110,99] (pG 41)=(((BU e50 (pG 41)).1,0),L50):=by
 have G:Rs [e50] [105,110,99]=some 0:=by kernel_rfl
 unfold Bz;rw [AQ AT,G];show (if (BU e50 (pG 41)).2≠0 then _ else _)=_;rw [AB (λh=>h go41.1),go41.2];rfl
def pts50:Cf L50 [97,110,110] (Ir [e50])=5/\Cf L50 [98,111,98] (Ir [e50])=5/\C4 L50 [97,110,110] [105,110,99]=2/\Ek (MX L50 (Ir [e50])) L50=[[98,111,98],[97,110,110]]:=⟨by kernel_rfl,by kernel_rfl,by kernel_rfl,by kernel_rfl⟩
def XE (k:lB) (v z:Value) (kvs:List (lB×Value)):Cv (Ej (Gb kvs k v) k) z false=v:=by simp [Cv,Wg]
def Q6 {r:Nat} {L:List AtV} {s:Bv} {ok:Bool} {bf:Bv->Nat} (hm:S r) (h1:MapB w' r ((Ew (Bj L) s).map λt=>(t,.map (some (bf t))))) (hs:S (bf s)/\bf s≠r/\MapB w' (bf s) (GS (L++[⟨s,n,ok⟩]) s))
 (U:∀t∈Bj L,t≠s->S (bf t)/\bf t≠r/\bf t≠bf s/\MapB w' (bf t) (GS L t)) (hj:∀t∈Bj L,t≠s -> ∀u∈Bj L,u≠s->bf t=bf u->t=u):RecAt S w' r (L++[⟨s,n,ok⟩]):=by
 have V:Bj (L++[⟨s,n,ok⟩])=Ew (Bj L) s:=KU ..;have h:∀t,t∈Ew (Bj L) s->t=s\/(t∈Bj L/\t≠s):=λt G=>by
  by_cases e:t=s
  . exact gq e
  . exact gt ⟨(mem_addN.1 G).resolve_right e,e⟩
 refine ⟨bf,by rw [V];exact h1,hm,λt G=>?_,λt G u X e=>?_⟩
 . rw [V] at G;rcases h t G with rfl|⟨O,N⟩
   . exact hs
   . obtain ⟨k1,k2,-,k4⟩:=U t O N;exact ⟨k1,k2,by rw [UQ L (λe=>N e.symm)];exact k4⟩
 . rw [V] at G X;rcases h t G with rfl|⟨O,N⟩
   . rcases h u X with rfl|⟨Y,Z⟩
     . rfl
     . exact absurd e.symm (U u Y Z).2.2.1
   . rcases h u X with rfl|⟨Y,Z⟩
     . exact absurd e (U t O N).2.2.1
     . exact hj t O N u Y Z e
set_option maxHeartbeats 8000000 in
def Q7 (M X:nP) (bb:Nat) (es:List EX) (fe:es.length<=1000) (L:List AtV) (hL:L.length<=1000000) (s n:Bv) (cw:s.length<=9223372036854775807) (hq:Cj s=true) (e:EX) (i:Nat) (hi:Rs es n=some i) (he:es[i]? = some e) (hw:e.wf) (cx:e.fuel<=10000) (p:PG) (hp:p.wf) (cy:p.vars.length<=1000000) (S:nP) (va:oA) (vc:Nat) (pa:oA) (pc:Nat) (ma:oA) (mc:Nat) (w:wD)
 (hb:BkAt M X w bb es L) (Y:p.sits S w va pa ma) (Z:PDsC S w p.procs pa) (cz:p.vars.length<=vc) :
 Calls prog 14 #[.pointer (some ⟨bb,0,none⟩),str s,str n,.agg (p.cells va vc pa pc ma mc).toArray] w (SubR M X bb es (Bz es L s n p) w):=by
 have X0:=iK w;have hv:Bz es L s n p=if (BU e p).2≠0 then ((jo,(BU e p).2),L) else (((BU e p).1,0),IW L s n (BU e p).1.ok):=by
  unfold Bz;rw [AQ hq,hi];simp only [he]
 obtain ⟨-,-,-,c0⟩:=Q4 hi;have ff:=(List.getElem?_eq_some_iff.1 he).1;rw [hv];have HB:=gp hb;obtain ⟨ea,ec,r,O,h2,h3,h4,h5,h6⟩:=hb;have HN:=gp (λw1=>JV s w1 cw);rw [hq] at HN;have HF:=gp (λw1 h h2=>OG bb es Ab n X ea ec (.map (some r)) w1 h rfl h2);rw [c0] at HF;obtain ⟨kb,ko,rfl,-,hk⟩:=i9 h3 Ab;obtain ⟨b9,c4,b2,c5,ca,c6,rx,sx⟩:=hk i e he;have HG:=gp (λ(S1 S2 S3:nP) w1 (g1:e.g.sits S1 w1 b9 b2 ca) (c7:PDsC S1 w1 e.g.procs b2) (g2:p.sits S2 w1 va pa ma) (g3:PDsC S3 w1 p.procs pa)=>ZA e hw cx p hp cy (λ_=>True) b9 c4 b2 c5 ca c6 va vc pa pc ma mc w1 ⟨g1.wide λ_ _=>trivial,c7.wide λ_ _=>trivial,sx.room⟩ (g2.wide λ_ _=>trivial) (g3.wide λ_ _=>trivial) cz);have q1:=sx.g;have q2:=sx.p;have fg:=O.lt;have c8:=gp h4;have H5:=gp h5;have H6:=gp h6;have H3:=gp h3;have H2:=gp h2;have H1:=gp O;clear h4 h5 h6 h2 hk sx hi hq hv;generalize fh:BU e p=gv at *;obtain ⟨vd,er⟩:=gv;simp only;unfold jg at *;obtain ⟨ac,cb,⟨bk,bl,bm⟩,cc⟩:=vd;refine Ad func14 ntmps14 rfl rfl (cS (eB [_,_,_,_,_,_] ?_));intro b1 w2 h4 x5 p6 z7;revert Y Z X0 O h3 rx q1 q2;refine eE x5 ?_;intro Y Z X0 O h3 rx q1 q2;refine eA [_,_,_,_,_,_] ?_;intro b8 w9 aa c9 fj fk;revert h4 Y Z X0 O h3 rx q1 q2;refine eE c9 ?_;intro h4 Y Z X0 O h3 rx q1 q2;refine eK ?_;refine C1 (Ee Ac rfl rfl) (kC (HN.out _) ?_);rintro _ fl ⟨⟨⟩,da⟩;revert aa h4 Y Z X0 O h3 rx q1 q2;refine eY da ?_;intro fm aa h4 Y Z X0 O h3 rx q1 q2;refine kC (HF.out _ Af Af) ?_;rintro _ cd ⟨⟨⟩,db⟩;revert aa h4 Y Z X0 O h3 rx q1 q2;refine eY db ?_;intro fo aa h4 Y Z X0 O h3 rx q1 q2;refine C1 Pa (cT (Aj (cS (C1 Mv (C1 V3 (cT (C6 (Ao (Ai ?_)))))))))
 refine FM (ι:=Nat×oA×Nat×oA×Nat×oA×Nat) (λy=>[(0,.pointer (some ⟨bb,0,none⟩)),(1,str s),(2,str n),(8,.pointer (some ⟨b8,0,none⟩)),(11,.pointer (some ⟨y.1,0,none⟩)),(12,.int .i64 er)])
  (λy w'=>Blk w' y.1 [.bool ac,.int .i64 cb,.slice y.2.1 bk.length y.2.2.1,.slice y.2.2.2.1 bl.length y.2.2.2.2.1,.slice y.2.2.2.2.2.1 bm.length y.2.2.2.2.2.2,.int .i64 cc]/\(⟨bk,bl,bm⟩:SV).sits (λb=>w.heap.size<=b/\b≠y.1/\b≠b8/\b<w'.heap.size) w' y.2.1 y.2.2.2.1 y.2.2.2.2.2.1/\(⟨bk,bl,bm⟩:SV).small/\Blk w' bb [.slice (some ⟨kb,ko,none⟩) es.length ec,.map (some r)]/\Blk w' b8 [.bool false,.int .i64 0,.slice none 0 0,.slice none 0 0,.slice none 0 0,.int .i64 0]/\Ext w w'/\w.heap.size<=y.1/\y.1<w'.heap.size/\y.1≠b8) ?_ ?_
 . focus
    refine Aq (λwz=>Ext cd wz) 14 (.pure 0 (.pure 1 (.pure 2 (.pure 3 (.pure 4 (.pure 5 (.pure 6 (.pure 7 (.fork 8 (.pure 9 (.pure 10 (.pure 11 (.fork 12 (.fork 13 .tail .none) .none)))) (.fork 12 (.fork 8 (.pure 9 (.pure 10 (.pure 11 (.fork 13 .tail .none)))) .none) .none)))))))))) mixed AT (Aa Ag) ?_;intro dc ce _;have G:(λwz=>Ext cd wz) dc:=ce;simp only at G;have ay:=aa;have az:=h4;have a0:=Y;have a4:=Z;have ah:=O;have bo:=h3;have a5:=rx;have bp:=q1;have bq:=q2;revert aa h4 Y Z X0 O h3 rx q1 q2;refine eY ce ?_;intro fp aa h4 Y Z X0 O h3 rx q1 q2;refine ⟨G,?_⟩;refine eT ?_;refine Tq rfl (BE Ac rfl rfl rfl (λwz V=>(iO a5 V)) rfl) (Tq rfl (xL [_,_,_,_,_,_] (λwz V=>(Blk.ext az V))) (AE rfl (AR AT rfl (HG.out _ _ _ _ Af Af Af Af) (λ_ _ h=>h.ret)) rfl ?_ aFh ?kra5));rintro _ dz ⟨fq,fs,d0,d1,dd,de,⟨⟩,ao,d2,cf⟩;revert G aa h4 Y Z X0 O h3 rx q1 q2;refine eY cf ?_;intro d3 G aa h4 Y Z X0 O h3 rx q1 q2;refine ⟨G,?_⟩;refine eT ?_;refine AE rfl (Bb Cs rfl) rfl ?_ aFh AD;rintro _ d4 ⟨d5,rfl,ap⟩;have br:=ap.blk;dsimp only at br;have cg:=ap.ext;have d6:=ap.pos;have d7:=ap.size;revert ao G aa h4 Y Z X0 O h3 rx q1 q2;refine eE cg ?_;intro ao G aa h4 Y Z X0 O h3 rx q1 q2;refine ⟨G,?_⟩;refine De [_,_,_,_,_,_] [_,_,_,_,_,_] rfl Ac rfl rfl rfl rfl rfl rfl br rfl rfl ?_ AD;intro d8 a6;have d9:=a6.blk;have a7:=a6.fr;have eb:=a6.size;revert ao G aa h4;refine eF a7 ?_;intro ao G aa h4;clear Y Z;revert X0 O;refine eF a7 ?_;intro X0 O;clear h3 rx q1 q2 a7;refine ⟨G,?_⟩;clear ay az a0 a4 ah bo a5 bp bq G;refine At rfl (C1 Pa (Ak ?_));rotate_left;refine AE rfl (Bb Cs rfl) rfl ?_ aFh AD;rintro _ ed ⟨ee,rfl,aq⟩;have ar:=aq.blk;dsimp only at ar;have ch:=aq.ext;have ef:=aq.pos;have eg:=aq.size;revert G aa h4 Y Z X0 O h3 rx q1 q2;refine eE ch ?_;intro G aa h4 Y Z X0 O h3 rx q1 q2;refine ⟨G,?_⟩;refine tC rfl rfl (HG.out _ _ _ _ Af Af Af Af) ?_;rintro _ eh ⟨ei,ej,df,dg,dh,di,⟨⟩,bs,ek,ci⟩;revert ar G aa h4 Y Z X0 O h3 rx q1 q2;refine eY ci ?_;intro el ar G aa h4 Y Z X0 O h3 rx q1 q2
    refine ⟨G,?_⟩;refine eT ?_;refine De [_,_,_,_,_,_] [_,_,_,_,_,_] rfl Ac rfl rfl rfl rfl rfl rfl ar rfl rfl ?_ AD;intro en a8;have eo:=a8.blk;have a9:=a8.fr;have ep:=a8.size;revert bs G aa h4;refine eF a9 ?_;intro bs G aa h4;clear Y Z;revert X0 O;refine eF a9 ?_;intro X0 O;clear h3 rx q1 q2 a9;refine ⟨G,?_⟩;clear ay az a0 a4 ah bo a5 bp bq G;refine At rfl (C1 Pa (Ak ?_));rotate_left
   all_goals exact BS (_,_,_,_,_,_,_) sC ⟨Af,SV.sits.wide Af (λb h=>⟨Ab,by simp only;omega,Ab,Ab⟩),Af,Af,Af,X0,by simp only;omega,by simp only;omega,by simp only;omega⟩
 . clear O h3 h4 aa HN HF HG rx q1 q2 Y Z X0;rintro ⟨dk,a1,c1,a2,c2,a3,c3⟩ w1 ⟨hv,sv,b3,O,U,X0,o1,o2,o3⟩;simp only at hv sv o1 o2 o3;refine jl (m:=[(0,.pointer (some ⟨bb,0,none⟩)),(1,str s),(2,str n),(8,.pointer (some ⟨b8,0,none⟩)),(11,.pointer (some ⟨dk,0,none⟩)),(12,.int .i64 er)]) ?_ sB;rcases Decidable.em (er=0) with b4|b4
   case inr=>
    rw [AQ b4];refine eK ?_;refine C1 (xB [_,_,_,_,_,_]) (C1 Mv (eS [_,_,_,_,_,_] U ?_));intro ft fu dl fv;revert hv sv O X0;refine eF dl ?_;intro hv sv O X0;refine C1 Pa (cT (AM (Au (CU rfl Ac rfl rfl rfl Af rfl rfl ?_))));exact Io (v:=jo) HB.out X0 Fz Fg
   subst b4;rw [AB AN];have HX:=gp X0;have fw:=X0.size;obtain ⟨bf,b5,r2,r3,r4⟩:=c8.out;have dm:=gp b5;have r1:=b5.ext X0;have fx:=r1.lt;clear b5;have N:=r1.is;have hg:=OF L s n;unfold Ho at hg;by_cases al:s∈Bj L
   . have am:Cv (Ej ((Bj L).map λs=>(s,Value.map (some (bf s)))) s) (.map none) false = .map (some (bf s)):=by
      rw [Fv (λs=>.map (some (bf s))),AQ al];rfl
     obtain ⟨m1,m2,cj⟩:=r3 s al;have m3:=cj.ext X0;clear cj;have V:MapZ w1 (some (bf s)) (GS L s):=gt ⟨_,rfl,m3.is⟩;have b6:=gp r3;have au:=gp r4;cases ad:Cb L s n
     . have ae:IW L s n ac=L++[⟨s,n,ac⟩]:=by unfold IW;rw [AB (by simp [ad])]
       rw [ad] at hg;have af:=Tn L s n ac;rw [Qr L s n ac ad] at af;have dn:C4 L s n<=1000000:=Nat.le_trans (List.countP_le_length ..) hL;have F:Fr (· = bf s) w w1:=iM X0;have fy:=H6.out _ m1;have dp:=H6.out _ r2;rw [ae];clear ae ad X0;refine eK ?_;refine C1 (C0 Ac rfl rfl rfl rfl rfl am (λwz V=>by rw [show wz=_ from V];assumption)) (C1 Mv (C1 (Ff Ac rfl rfl rfl rfl rfl hg (λwz V=>by rw [show wz=_ from V];assumption)) (xA [_,_] ?_)));intro fz f0 dq;refine eI [_,_] dq ?_;intro ck ba dr f1 f2;revert hv sv O U r1 N m3 V F;refine eE dr ?_;intro hv sv O U r1 N m3 V F;refine eK ?_;refine C1 (C0 Ac rfl rfl rfl rfl rfl am (λwz V=>by rw [show wz=_ from V];assumption)) (C1 (YP Ac rfl rfl) (eK ?_));refine Aq (λwz=>Ext ck wz) 13 (.pure 0 (.pure 1 (.pure 2 (.pure 3 (.pure 4 (.pure 5 (.pure 6 (.pure 7 (.pure 8 (.pure 9 (.pure 10 (.pure 11 (.pure 12 .tail))))))))))))) mixed AT (Aa Ag) ?_;intro ds bt _;have an:(λwz=>Ext ck wz) ds:=bt;simp only at an;have b7:=ba;have bu:=hv;have bv:=sv;have ah:=O;have bc:=U;have cl:=r1;have bn:=N;have cm:=m3;have bw:=V;revert ba hv sv O U r1 N m3 V F;refine eY bt ?_;intro eq ba hv sv O U r1 N m3 V F;refine ⟨an,?_⟩;refine eT ?_;refine Tq rfl (C0 Ac rfl rfl rfl rfl rfl am (λwz V=>MapIs.ext Af V)) (eT ?_);refine Tq rfl (xB [_,_]) ?_;clear an b7 bu bv ah bc cl bn cm bw
       refine At rfl (A2 (E0 Ac rfl rfl rfl rfl rfl Af) (BA ?_));rintro _ et ⟨av,ai,eu⟩;revert ba hv sv;refine eZ ai ?_;intro ew ba hv sv;have U:=U.fr ai Ab;have r1:=MapB.fr r1 ai (λe=>m2 e.symm);have N:=MapIs.fr N ai (λe=>m2 e.symm);clear m3 V;have F:=iU F ai (λk hk=>gq hk);refine eK ?_;refine eS [_,_,_,_,_,_] U ?_;intro ex ey bd ez;have av:=av.fr bd Ab;revert hv sv r1 N;refine eF bd ?_;intro hv sv r1 N;have F:=iU F bd (λk hk=>gt Ab);refine C1 Pa (cT (AM (CU rfl Ac rfl rfl rfl Af rfl rfl ?_)));rw [af] at av;have be:∀k,X k -> ¬k=bf s:=λk hk e=>(H5.out k hk).1 (e▸m1)
       refine ⟨a1,c1,a2,c2,a3,c3,rfl,sv.wide (λb h=>⟨h.1,Ab⟩),b3,M,λ_ h=>h,λ_ h=>gq h,⟨_,ec,r,H1.out.fr F (be _ H2.out),H2.out,H3.out.fr F be,Q6 (bf:=bf) r2 ?_ ⟨m1,m2,av⟩ (λt ht bg=>?_) (λt ht _ u hu _=>au.out t ht u hu),λk hk=>⟨(H5.out k hk).1,by have:=(H5.out k hk).2;have:=F.size;omega⟩,λk hk=>by have:=H6.out k hk;have:=F.size;omega⟩,F.weaken λk (e:k=bf s)=>by subst e;exact m1⟩
       . unfold Ew;rw [AQ al];exact dm.out.fr F (λe=>m2 e.symm)
       . obtain ⟨k1,k2,k3⟩:=b6.out t ht;have cn:bf t≠bf s:=λe=>bg (au.out t ht s al e)
         exact ⟨k1,k2,cn,k3.fr F cn⟩
     . have ae:IW L s n ac=L:=by unfold IW;rw [AQ ad]
       rw [ad] at hg;rw [ae];refine eK ?_;refine C1 (C0 Ac rfl rfl rfl rfl rfl am (λwz V=>by rw [show wz=_ from V];assumption)) (C1 Mv (C1 (Ff Ac rfl rfl rfl rfl rfl hg (λwz V=>by rw [show wz=_ from V];assumption)) (xA [_,_] ?_)));intro f3 f4 dt;refine eI [_,_] dt ?_;intro f5 f6 du f7 f8;revert hv sv O U X0 r1 N m3 V;refine eE du ?_;intro hv sv O U X0 r1 N m3 V;refine eK ?_;refine eS [_,_,_,_,_,_] U ?_;intro f9 e0 bx e1;revert hv sv O X0;refine eF bx ?_;intro hv sv O X0;clear r1 N m3 V bx;refine C1 Pa (cT (AM (CU rfl Ac rfl rfl rfl Af rfl rfl ?_)));exact Io (v:=⟨ac,cb,⟨bk,bl,bm⟩,cc⟩) HB.out X0 (sv.wide (λb h=>⟨h.1,Ab⟩)) b3
   . have co:GS L s=[]:=by unfold GS;rw [Me al];rfl
     have am:Cv (Ej ((Bj L).map λs=>(s,Value.map (some (bf s)))) s) (.map none) false = .map none:=by
      rw [Fv (λs=>.map (some (bf s))),AB al];rfl
     have V:MapZ w1 none (GS L s):=gq ⟨rfl,co⟩;have ad:Cb L s n=false:=(Kb L s n (by rw [Me al];simp)).2;have ae:IW L s n ac=L++[⟨s,n,ac⟩]:=by unfold IW;rw [AB (by simp [ad])]
     have af:=Tn L s n ac;rw [Qr L s n ac ad] at af;have dn:C4 L s n<=1000000:=Nat.le_trans (List.countP_le_length ..) hL;have F:Fr (· = r) w w1:=iM X0;have b6:=gp r3;have au:=gp r4;have dp:=H6.out _ r2;have ga:bb≠r:=λe=>(H5.out _ H2.out).1 (e▸r2)
     rw [ad] at hg;rw [ae];clear ae ad X0 r3 r4;refine eK ?_;refine C1 (C0 Ac rfl rfl rfl rfl rfl am (λwz V=>by rw [show wz=_ from V];assumption)) (C1 Mv (C1 (Ff Ac rfl rfl rfl rfl rfl hg (λwz V=>by rw [show wz=_ from V];assumption)) (xA [_,_] ?_)));intro gb gc dv;refine eI [_,_] dv ?_;intro gd ag dw gf gg;revert hv sv O U r1 N V F;refine eE dw ?_;intro hv sv O U r1 N V F;refine eK ?_;refine C1 (C0 Ac rfl rfl rfl rfl rfl am (λwz V=>by rw [show wz=_ from V];assumption)) (C1 (YQ Ac rfl rfl) (eK ?_));refine Ax (ID) rfl ?_ aFh;rintro _ e2 ⟨bh,rfl,e3,aj,cp,e4⟩;revert ag hv sv O U r1 N V F;refine eY cp ?_;intro e5 ag hv sv O U r1 N V F;refine A2 (E0 Ac rfl rfl rfl rfl rfl Af) (BA ?_);rintro _ bz ⟨ab,bi,e6⟩;revert aj ag hv sv O U;refine eZ bi ?_;intro e7 aj ag hv sv O U;clear r1 N;have V:=MapZ.fr V bi (λk hk=>(Option.some_ne_none _ hk.symm).elim);have F:=iU F bi (λk hk=>gq hk);refine cT (Aq (λwz=>Ext bz wz) 13 (.pure 0 (.pure 1 (.pure 2 (.pure 3 (.pure 4 (.pure 5 (.pure 6 (.pure 7 (.pure 8 (.pure 9 (.pure 10 (.pure 11 (.pure 12 .tail))))))))))))) mixed AT (Aa Ag) ?_);intro cq b0 _;have bj:(λwz=>Ext bz wz) cq:=b0;simp only at bj;have cu:=ab;have cv:=aj;have dx:=ag;have bu:=hv;have bv:=sv;have ah:=O;have bc:=U;have bw:=V;revert ab aj ag hv sv O U V F;refine eY b0 ?_;intro e8 ab aj ag hv sv O U V F;refine ⟨bj,?_⟩;refine eT ?_;refine Tq rfl (C0 Ac rfl rfl rfl rfl rfl (XE _ _ _ _) (λwz V=>MapIs.ext (MapB.is Af) V)) (eT ?_);refine Tq rfl (xB [_,_]) (At rfl (A2 (E0 Ac rfl rfl rfl rfl rfl Af) (BA ?_)));rintro _ e9 ⟨aw,ak,fa⟩;have fb:=ak.size;have ab:=ab.fr ak Ab;revert ag hv sv O U;refine eF ak ?_;intro ag hv sv O U;have V:=MapZ.fr V ak (λk hk=>(Option.some_ne_none _ hk.symm).elim);have F:=iU F ak (λk hk=>gt Ab);refine eK ?_;refine eS [_,_,_,_,_,_] U ?_;intro cr fc ax fd;revert aw ab;refine eF ax ?_;intro aw ab;revert hv sv O;refine eF ax ?_;intro hv sv O;have V:=MapZ.fr V ax (λk hk=>(Option.some_ne_none _ hk.symm).elim);have F:=iU F ax (λk hk=>gt Ab);refine C1 Pa (cT (AM ?_))
     refine CU rfl Ac rfl rfl rfl Af rfl rfl ?_;rw [co] at af;rw [af] at aw;have be:∀k,X k -> ¬k=r:=λk hk e=>(H5.out k hk).1 (e▸r2)
     have ct:=Mf (f:=λt=>Value.map (some (bf t))) (g:=λt=>Value.map (some (if t=s then bh else bf t))) (n:=s) (λt ht=>by simp only [AB ht]) (Bj L) (JA L);simp only [if_true] at ct;rw [ct] at ab;have gh:w.heap.size<=bh/\bh<cr.heap.size:=⟨Ab,Ab⟩;have gi:=F.size;refine ⟨a1,c1,a2,c2,a3,c3,rfl,sv.wide (λb h=>⟨h.1,Ab⟩),b3,λk=>M k\/k=bh,λ_ h=>gq h,λk h=>h.imp id (λe=>by omega),⟨_,ec,r,H1.out.fr F (be _ H2.out),H2.out,H3.out.fr F be,Q6 (bf:=λt=>if t=s then bh else bf t) (gq r2) ab ⟨?_,?_,?_⟩ (λt ht bg=>?_) (λt ht bg u hu dy e=>?_),λk hk=>⟨λh=>?_,by have:=(H5.out k hk).2;omega⟩,λk hk=>?_⟩,F.weaken λk (e:k=r)=>by subst e;exact r2⟩
     . simp
     . simp only [if_true];omega
     . simp only [if_true];exact aw
     . obtain ⟨k1,k2,k3⟩:=b6.out t ht;have:=H6.out _ k1;simp only [AB bg,if_true];exact ⟨gq k1,k2,Ab,k3.fr F (λe=>k2 e)⟩
     . simp only [AB bg,AB dy] at e;exact au.out t ht u hu e
     . rcases h with h|h
       . exact (H5.out k hk).1 h
       . have:=(H5.out k hk).2;omega
     . rcases hk with hk|hk
       . have:=H6.out k hk;omega
       . omega
def DQ:List Int->Int
 | []=>0
 | x::r=>if x≠0 then x else DQ r
def OT {l:List Int} (h:j<l.length):DQ (l.drop j)=if l[j]≠0 then l[j] else DQ (l.drop (j+1)):=by
 rw [gW h,DQ]
def fI (xs:List Int) (Y:xs.length<=1000) (g c:Nat) (w:wD) (h:Blk w g (AX xs)):Calls prog 37 #[.slice (some ⟨g,0,none⟩) xs.length c] w λe w'=>e = .returned (.int .i64 (DQ xs))/\Ext w w':=by
 have X:=iK w;refine Ad func37 ntmps37 rfl rfl (cS (C1 Pa (cN (C1 Pa (cT (Aj (cS (C1 Mv (C1 Pz (C1 Mv (cT ?_)))))))))));refine As ?_;refine AG (ι:=Nat) (λj=>[(3,.int .i64 0),(6,.slice (some ⟨g,0,none⟩) xs.length c),(7,.int .i64 xs.length),(8,.int .i64 j)])
  (λj w'=>j<=xs.length/\DQ xs=DQ (xs.drop j)/\Blk w' g (AX xs)/\Ext w w') (λj=>xs.length-j) 0 sB ⟨gC _,rfl,h,X⟩ ?_
 clear h X;rintro j w1 ⟨Z,G,h,X⟩;by_cases M:j<xs.length
 . have U:Row w1 ⟨g,0+j*1,none⟩ [.int .i64 xs[j]]:=λi v N=>by
    have V:w1.cell? ⟨g,j,none⟩=some (.int .i64 xs[j]):=Blk.cell h (by simp [AX,M]);cases i with
    | zero=>
     simp only [gX,gy] at N;subst N;simpa [iC] using V
    | succ i=>simp at N
   rw [OT M] at G;generalize xs[j]=x at *;by_cases O:x=0
   . subst O;rw [AB AN] at G;refine cS (C1 V3 (cT (Aj (O8 (Ao (Ai (Aj (As (cS (C1 Pi (C1 (SR U) (C1 Pa (cN (C1 Mv (C1 Mv (C1 V2 (cT (Lb (Ao (Ah (Ai (Al (C1 V7 (C1 Mv (Ak ?_)))))))))))))))))))))))));exact Aw (j+1) sB ⟨Ab,G,h,X⟩ Ab
   . rw [AQ O] at G;rw [G];refine kR ?_;exact ⟨rfl,X⟩
 . obtain rfl:j=xs.length:=by omega
   rw [List.drop_length] at G;rw [G];refine kR ?_;exact ⟨rfl,X⟩
def Q8 (L:List AtV) (ps:List (Bv×Int)) (s t:Bv):DQ [Kd YT (Cf L t ps) (Cf L s ps),Kd YT (DU L s) (DU L t),Kd G0 s t]=ND L ps s t:=by
 unfold ND DQ DQ DQ DQ;split
 . rfl
 . split
   . rfl
   . split
     . rfl
     . rename_i h;simp at h;exact h.symm
def ZB (M X:nP) (V:Nat) (es:List EX) (he:es.length<=1000) (hp:∀e∈es,0<=e.points/\e.points<=1000) (L:List AtV) (hL:L.length<=1000000) (s t:Bv) (hs:s∈Bj L) (ht:t∈Bj L) (bx:Nat) (w:wD) (O:BkAt M X w V es L) (hx:Blk w bx [.pointer (some ⟨V,0,none⟩)]) :
 Calls prog 36 #[str s,str t,.pointer (some ⟨bx,0,none⟩)] w λe w'=>e = .returned (.int .i64 (ND L (Ir es) s t))/\Ext w w':=by
 have N:=iK w;rw [<-Q8];have HP:=gp (λs w1 h=>Fw M X V es he hp L s w1 h);have HT:=gp (λs hs w1 h=>YS M X V es L hL s hs w1 h);have HO:=gp (λ(a b c:Int) g w1 h=>fI [a,b,c] AN g 3 w1 h);clear hp;refine Ad func36 ntmps36 rfl rfl (eK ?_);refine Aq (λY=>Ext w Y) 16 (.pure 0 (.pure 1 (.pure 3 (.pure 4 (.pure 7 (.pure 8 (.pure 10 (.pure 11 (.pure 14 (.pure 15 (.fork 2 (.fork 5 (.fork 6 (.fork 9 (.fork 12 (.fork 13 .tail .none) .none) .none) .none) .none) .none))))))))))) mixed AT (Aa Ag) ?_;intro w1 x2 _;have G:(λY=>Ext w Y) w1:=x2;simp only at G;have ah:=hx;revert O N;refine eE x2 ?_;intro O N;refine ⟨G,?_⟩;refine eT ?_;refine tC rfl rfl (HP.out _ _ Af) ?_;rintro _ w7 ⟨⟨⟩,x6⟩;revert G O N;refine eE x6 ?_;intro G O N;refine ⟨G,?_⟩;refine tC rfl rfl (HP.out _ _ Af) ?_;rintro _ ai ⟨⟨⟩,Z⟩;revert G O N;refine eE Z ?_;intro G O N;refine ⟨G,?_⟩;refine tC rfl rfl (WD _ _ _) ?_;rintro _ aj ⟨⟨⟩,aa⟩;revert G O N;refine eE aa ?_;intro G O N;refine ⟨G,?_⟩;refine tC rfl rfl (HT.out _ Af _ Af) ?_;rintro _ ak ⟨⟨⟩,ab⟩;revert G O N;refine eE ab ?_;intro G O N;refine ⟨G,?_⟩;refine tC rfl rfl (HT.out _ Af _ Af) ?_;rintro _ al ⟨⟨⟩,ac⟩;revert G N;refine eE ac ?_;intro G N;refine ⟨G,?_⟩;refine tC rfl rfl (WD _ _ _) ?_;rintro _ am ⟨⟨⟩,ad⟩;revert G N;refine eE ad ?_;intro G N;refine ⟨G,?_⟩;refine At rfl (cC rfl (aM _ _ _) ?_);rintro _ an ⟨⟨⟩,ae⟩;have N:=N.ext ae;refine Ax (xS [_,_,_]) rfl ?_ aFh;rintro _ ao ⟨ap,rfl,U,aq⟩;have ar:=U.blk;have af:=U.ext;have N:=N.ext af;refine cC rfl (HO.out _ _ _ _ _ Af) ?_;rintro _ au ⟨⟨⟩,ag⟩;have N:=N.ext ag;refine kR ?_
 exact ⟨rfl,N⟩
section
variable {α:Type} {lt:α->α->Bool}
def FT (lt:α->α->Bool) (l:List α):List α:=l.foldl (λa x=>Cu lt x a) []
def Sz (l:List α) (x:α):FT lt (l++[x])=Cu lt x (FT lt l):=by simp [FT,List.foldl_append]
def MK (x:α):∀l:List α,(Cu lt x l).length=l.length+1
 | []=>rfl
 | y::r=>by unfold Cu;split<;>simp [MK x r]
def ML:∀l a:List α,(l.foldl (λa x=>Cu lt x a) a).length=a.length+l.length
 | [],a=>rfl
 | x::l,a=>by rw [List.foldl_cons,ML l,MK,gD];omega
def Kl (l:List α):(FT lt l).length=l.length:=by
 have:=ML (lt:=lt) l [];simpa [FT] using this
def G1 (p:List α) (x:α) (q r:List α):List α:=p.reverse++(x::(q++r))
def XF (p:List α) (x:α) (q r:List α):(G1 p x q r)[p.length]? = some x:=by unfold G1;simp
def XG (y:α) (p:List α) (x:α) (q r:List α):(G1 (y::p) x q r)[p.length]? = some y:=by unfold G1;simp
def NU (y:α) (p:List α) (x:α) (q r:List α):((G1 (y::p) x q r).set (p.length+1) y).set p.length x=G1 p x (y::q) r:=by
 unfold G1;rw [List.reverse_cons,gZ];simp [List.set_append]
def Q9 (p:List α) (x:α) (q r:List α):(G1 p x q r).length=p.length+1+q.length+r.length:=by unfold G1;simp;omega
def InsI (lt:α->α->Bool) (x:α) (a p q:List α):Prop:=(Cu lt x a).reverse=(Cu lt x p).reverse++q
def InsI.step {x y:α} {a p q:List α} (h:InsI lt x a (y::p) q) (G:lt x y=true):InsI lt x a p (y::q):=by
 unfold InsI at h ⊢;rw [h,Cu,AQ G];simp
def InsI.stop {x:α} {a p q:List α} (h:InsI lt x a p q) (G:∀y r,p=y::r->lt x y=false) (r:List α):G1 p x q r=(Cu lt x a).reverse++r:=by
 unfold InsI at h;rw [h];cases p with
 | nil=>simp [G1,Cu]
 | cons y p=>
  rw [Cu,AB (by rw [G y p rfl];simp)];simp [G1]
def Vi {z:α} {l:List α} (h:z∈FT lt l):z∈l:=by
 have:=(L9 (lt:=lt) (z:=z) l []).1 h;simpa using this
def MM (lt:α->α->Bool) (l:List α) (i:Nat):List α:=(FT lt (l.take i)).reverse++l.drop i
def Ra {l:List α} {i:Nat} (h:i<l.length):MM lt l i=G1 (FT lt (l.take i)) l[i] [] (l.drop (i+1)):=by
 unfold MM G1;rw [gW h,List.nil_append]
def NV {l:List α} {i:Nat} (h:i<l.length):MM lt l (i+1)=(Cu lt l[i] (FT lt (l.take i))).reverse++l.drop (i+1):=by
 unfold MM;rw [gx h,Sz]
def MN {l:List α} (h:1<=l.length):MM lt l 1=l:=by
 cases l with
 | nil=>simp at h
 | cons x r=>simp [MM,FT,Cu]
def Km {l:List α}:MM lt l l.length=Ft lt l:=by
 unfold MM Ft FT;simp
def InsI.first (x:α) (a:List α):InsI lt x a a []:=by unfold InsI;simp
end
def ArrT (w:wD) (g:Nat) (xs:List Bv):Prop:= ∃tail,Blk w g (xs.map str++tail)
section
variable {P:Program} {n:Nat} {l:Sl} {tab:Tab} {ty:TypeId} {w w':wD} {g:Nat} {xs:List Bv}
def ArrT.lt (h:ArrT w g xs):g<w.heap.size:=by obtain ⟨_,h⟩:=h;exact h.lt
def ArrT.ext (h:ArrT w g xs) (x:Ext w w'):ArrT w' g xs:=by obtain ⟨t,h⟩:=h;exact ⟨t,h.ext x⟩
instance  : LfE w w' (ArrT w g xs) (ArrT w' g xs):=⟨λx h=>Bk.ArrT.ext h x⟩
def ArrT.row1 {x:Bv} (h:ArrT w g xs) (M:xs[j]? = some x):Row w ⟨g,0+j*1,none⟩ [str x]:=λi v G=>by
 obtain ⟨t,h⟩:=h;have N:=(List.getElem?_eq_some_iff.1 M).1;have O:w.cell? ⟨g,j,none⟩=some (str x):=Blk.cell h (by rw [gJ (by simpa using N),gV,M];rfl);cases i with
 | zero=>
  simp only [gX,gy] at G;subst G;simpa [iC] using O
 | succ i=>simp at G
def FU {x y:Operand} {t sz:Nat} {s:Sk} {z:Bv} (T:TabOk P tab) (ht:Az tab t=some (s,sz)) (hz:sz=1) (hx:ev l x=some (.pointer (some ⟨g,0+j*1,none⟩))) (hy:ev l y=some (str z)) (hA:ArrT w g xs) (hj:j<xs.length) :
 BD P n l (.store t x y) ty w (FY λw'=>ArrT w' g (xs.set j z)/\Fr (· = g) w w'/\w'.heap.size=w.heap.size):=by
 subst hz;obtain ⟨tl,hb⟩:=hA;have hd:=Do (P:=P) (n:=n) (l:=l) (ty:=ty) (us:=[str z]) T ht hx hy rfl rfl rfl hb (by rw [Nat.ble_eq];simp;omega);unfold BD at hd ⊢;intro a dst pos after gd next Q ha hn b;refine hd a dst pos after gd next Q ha (λv' w' h=>h.elim) (λw' hP=>b w' ?_);have hP':Put w w' g (A8 (xs.map str++tl) (0+j*1) [str z]):=hP;have e:A8 (xs.map str++tl) (0+j*1) [str z]=(xs.set j z).map str++tl:=by
  simp only [A8,iu,Nat.mul_one];rw [List.set_append,AQ (by simpa using hj),List.map_set]
 rw [e] at hP';exact ⟨⟨tl,hP'.blk⟩,hP'.fr,hP'.size⟩
end
abbrev ZZ (bx:Nat):Value:=.func (.func 36) #[] #[.pointer (some ⟨bx,0,none⟩)]
set_option maxHeartbeats 8000000 in
def bT (M X:nP) (bb:Nat) (es:List EX) (he:es.length<=1000) (hp:∀e∈es,0<=e.points/\e.points<=1000) (L:List AtV) (hL:L.length<=1000000) (bx g cap:Nat) (xs:List Bv) (hx:∀x∈xs,x∈Bj L) (hn:1<=xs.length/\xs.length<=12) (hg:¬X g /\ ¬M g/\g≠bx) (w:wD) (O:BkAt M X w bb es L) (G:Blk w bx [.pointer (some ⟨bb,0,none⟩)]) (N:ArrT w g xs) :
 Calls prog 92 #[.slice (some ⟨g,0,none⟩) xs.length cap,.int .i64 0,.int .i64 xs.length,ZZ bx] w λe w'=>e = .returned (.tuple #[])/\ArrT w' g (Ft (MX L (Ir es)) xs)/\Fr (· = g) w w':=by
 have F:=iP (· = g) w;have HC:=gp (λs t hs ht w1 h1 h2=>ZB M X bb es he hp L hL s t hs ht bx w1 h1 h2);have au:=λs t=>WB L (Ir es) s t
 obtain ⟨g1,g2,g3⟩:=hg;have HX:=gp hx;generalize be:MX L (Ir es)=lt at *;clear hp hx;refine Ad func92 ntmps92 rfl rfl ?_;refine cS (C1 Mv (C1 V7 (C1 Pa (cT ?_))));refine As ?_;refine AG (ι:=Nat) (λi=>[(0,.slice (some ⟨g,0,none⟩) xs.length cap),(1,.int .i64 0),(2,.int .i64 xs.length),(3,ZZ bx),(8,.int .i64 i)])
  (λi w'=>1<=i/\i<=xs.length/\ArrT w' g (MM lt xs i)/\BkAt M X w' bb es L/\Blk w' bx [.pointer (some ⟨bb,0,none⟩)]/\Fr (· = g) w w') (λi=>xs.length-i) 1 sB ⟨gI _,hn.1,by rw [MN hn.1];exact N,O,G,F⟩ ?_
 clear N O G F;rintro i w1 ⟨bk,hi,N,O,G,F⟩;by_cases ao:i<xs.length
 . have ai:∀z∈FT lt (xs.take i),z∈Bj L:=λz hz=>HX.out z (List.mem_of_mem_take (Vi hz))
   have a3:=HX.out _ (gA ao);have a4:=Kl (lt:=lt) (xs.take i);rw [ij] at a4;have av:=NV (lt:=lt) ao;rw [Ra ao] at N;have bl:(xs.drop (i+1)).length=xs.length-(i+1):=List.length_drop ..;have HM:=gp ai;have HN:=gp av;clear ai av HX;generalize bm:FT lt (xs.take i)=acc at *;generalize xs.drop (i+1)=r at *;generalize xs[i]=x at *;refine Aj (cS (C1 Mv (C1 Mv (C1 V3 (cT (O8 (Ao (Ai (Aj (As (cS ?_)))))))))));refine C1 Mv (C1 Pa (cT ?_));refine As ?_;refine AG (ι:=List Bv×List Bv) (λz=>[(0,.slice (some ⟨g,0,none⟩) xs.length cap),(1,.int .i64 0),(2,.int .i64 xs.length),(3,ZZ bx),(8,.int .i64 i),(9,.int .i64 z.1.length)])
    (λz w'=>InsI lt x acc z.1 z.2/\z.1.length+z.2.length=i/\(∀y∈z.1,y∈Bj L)/\ArrT w' g (G1 z.1 x z.2 r)/\BkAt M X w' bb es L/\Blk w' bx [.pointer (some ⟨bb,0,none⟩)]/\Fr (· = g) w w') (λz=>z.1.length) (acc,[]) (by (refine Am rfl ?_;refine Am rfl ?_;refine Am rfl ?_;refine Am rfl ?_;refine Am rfl ?_;refine BL rfl (by go_num) ?_;exact BB)) ⟨InsI.first x acc,by simp only [hH];omega,HM.out,N,O,G,F⟩ ?_
   clear N O G F;rintro ⟨p,q⟩ w2 ⟨hI,ap,ag,N,O,G,F⟩;simp only at hI ap ag N;refine jl (m:=[(0,.slice (some ⟨g,0,none⟩) xs.length cap),(1,.int .i64 0),(2,.int .i64 xs.length),(3,ZZ bx),(8,.int .i64 i),(9,.int .i64 p.length)]) ?_ sB;have rx:=N.row1 (XF p x q r);have aw:=Q9 p x q r;cases p with
   | nil=>
    have V:=hI.stop (λy r h=>by cases h) r;rw [<-HN.out] at V;rw [V] at N;refine eK ?_;refine Aq (λU=>Ext w2 U) 14 (.pure 0 (.pure 1 (.pure 2 (.pure 3 (.pure 4 (.pure 5 (.pure 6 (.pure 7 (.pure 8 (.pure 9 (.pure 10 (.pure 11 (.pure 12 (.pure 13 .tail)))))))))))))) mixed AT (Aa (Aa (Aa (Ae (Ae (Aa (Aa (Ae Ag)))))))) ?_;intro a5 ax _;have aj:(λU=>Ext w2 U) a5:=ax;simp only at aj;revert O G F N;refine eE ax ?_;intro O G F N;refine ⟨aj,?_⟩;refine Tq rfl Mv (Tq rfl Mv (Tq rfl V5 (Tq rfl Mv (eM rfl (eM rfl (eM rfl (eM rfl (eM rfl (eM rfl (eM rfl (eM rfl ?_)))))))))));refine eM rfl (eM rfl ?_);refine At rfl (X0 (X0 (C1 XZ (cT (AY rfl (BF (Av (Av (AO (Ah (Ai ?_)))))))))));refine Al (C1 Mv (C1 V7 (C1 Pa (Ak ?_))));exact Aw (i+1) sB ⟨Ab,Ab,N,O,G,F⟩ Ab
   | cons y p=>
    have ry:=N.row1 (XG y p x q r);have ay:=NU y p x q r;have az:=gp (HC.out x y a3 (ag y AN));have ad:=au x y;have ak:∀z∈p,z∈Bj L:=λz hz=>ag z (by simp [hz])
    have Y:iG .i64 ((p.length:Int)+1-1)=(p.length:Int):=by rw [Int.add_sub_cancel];exact gz _ (by simp only [gD] at ap;omega)
    have HI:=gp hI;have a6:=gp ak;simp only [gD] at rx aw ap;clear ag hI ak au;refine jl (m:=[(0,.slice (some ⟨g,0,none⟩) xs.length cap),(1,.int .i64 0),(2,.int .i64 xs.length),(3,ZZ bx),(8,.int .i64 i),(9,.int .i64 ((p.length:Int)+1))]) ?_ sB;generalize ND L (Ir es) x y=cv at *;by_cases ae:lt x y=true
    . rw [ae] at ad;have a7:cv<0:=of_decide_eq_true ad;have a8:=HI.out.step ae;clear HI ad;generalize G1 (y::p) x q r=row at *;refine eK ?_;refine Aq (λU=>Ext w2 U) 14 (.pure 0 (.pure 1 (.pure 2 (.pure 3 (.pure 4 (.pure 5 (.pure 6 (.pure 7 (.pure 8 (.pure 9 (.pure 10 (.pure 11 (.pure 12 (.pure 13 .tail)))))))))))))) mixed AT (Aa (Aa (Aa (Ae (Ae (Aa (Aa (Ae Ag)))))))) ?_;intro a9 a0 _;have al:(λU=>Ext w2 U) a9:=a0;simp only at al;have Z:=rx;have aa:=ry;revert O G F rx ry N;refine eE a0 ?_;intro O G F rx ry N;refine ⟨al,?_⟩;refine Tq rfl Mv (Tq rfl Mv (Tq rfl V5 (Tq rfl Mv (eN rfl (Ar rfl) (eN rfl (Ar rfl) (eN rfl (Ar rfl) (eN rfl (AC Ac rfl rfl rfl rfl Ab Ab) (eN rfl (Ap Ac rfl rfl rfl (λU hz=>iT (iO Z hz) rfl)) (eN rfl (Ar rfl) (eN rfl (Ar rfl) (eN rfl (AK (c:=(p.length:Int)) rfl rfl Y) ?_)))))))))));refine eN rfl (AC Ac rfl rfl rfl rfl Ab Ab) (eN rfl (Ap Ac rfl rfl rfl (λU hz=>iT (iO aa hz) rfl)) ?_);refine At rfl (TV ?_);refine Ax (A9 (fi:=[]) (ca:=[.pointer (some ⟨bx,0,none⟩)]) AT rfl rfl (az.out _ Af Af) (λ_ _ h=>⟨_,h.1⟩)) rfl ?_ aFh;rintro _ ah ⟨⟨⟩,ba⟩;revert O G F rx ry N;refine eE ba ?_;intro O G F rx ry N;refine eK ?_;refine EM (λU=>Ext ah U) (λU=>Fr (λx=>x=g) ah U) [2,3,4,15,16,17] [2,3,4] 15 16 (.free 2 (.free 3 (.free 4 (.pure 0 (.pure 1 (.pure 5 (.pure 6 (.pure 7 (.pure 8 (.pure 9 (.pure 10 (.pure 11 (.pure 12 (.pure 13 (.pure 14 (.put 15 (.tail 16))))))))))))))))) (λ_ h=>iM h) mixed AT (Ae (Aa (Aa (Ae (Ae (Aa (Aa (Ae Ag)))))))) ?_;intro a1 aq _;have ar:(λU=>Ext ah U) a1:=aq;simp only at ar;have ac:(λU=>Fr (λx=>x=g) ah U) a1:=iM aq;simp only at ac;have Z:=rx;have aa:=ry;revert O G F N;refine eE aq ?_;intro O G F N;refine Bl Af rfl (Ar rfl) rfl (Bl Af rfl (Ar rfl) rfl (Bl Af rfl (AK (c:=(p.length:Int)) rfl rfl Y) rfl (An Af rfl (Ar rfl) rfl (An Af rfl (Ar rfl) rfl (An Af rfl (Ar rfl) rfl (An Af rfl (Ar rfl) rfl (An Af rfl (AK (c:=(p.length:Int)) rfl rfl Y) rfl (An Af rfl (AC Ac rfl rfl rfl rfl Ab Ab) rfl (An Af rfl (Ap Ac rfl rfl rfl (λU hz=>iT (iO aa hz) rfl)) rfl (An Af rfl (Ar rfl) rfl (An Af rfl (Ar rfl) rfl ?_)))))))))))
      refine An Af rfl (AC Ac rfl rfl rfl rfl Ab Ab) rfl (An Af rfl (Ap Ac rfl rfl rfl (λU hz=>iT (iO Z hz) rfl)) rfl (An Af rfl (AC Ac rfl rfl rfl rfl Ab Ab) rfl (Du rfl (FU (j:=p.length+1) (z:=y) Ac rfl rfl rfl rfl Af Ab) (BA ?_))));rintro _ bf ⟨bg,ab,bh⟩;have ac:=ac.fr ab Ab;have O:=BkAt.fr O ab (λk hk e=>by (rcases hk with hk|hk;exact g1 (e▸hk);exact g2 (e▸hk)));have G:=iN G ab (λe=>g3 e.symm);have F:=F.fr ab Ab;clear rx ry N ab;refine ⟨Af,?_⟩;refine Dt rfl (C1 Pi (A2 (FU (j:=p.length) (z:=x) Ac rfl rfl rfl rfl Af (by rw [List.length_set];omega)) (BA ?_)));rintro _ bi ⟨am,af,bj⟩;have O:=BkAt.fr O af (λk hk e=>by (rcases hk with hk|hk;exact g1 (e▸hk);exact g2 (e▸hk)));have G:=iN G af (λe=>g3 e.symm);have F:=F.fr af Ab;refine eK ?_;refine C1 (AK (c:=(p.length:Int)) rfl rfl Y) (C1 Pa (Ak ?_));rw [ay] at am;exact Aw (p,y::q) sB ⟨a8,by simp only [gD];omega,a6.out,am,O,G,F⟩ AN
    . rw [Bool.not_eq_true] at ae;rw [ae] at ad;have a7:¬cv<0:=of_decide_eq_false ad;have V:=HI.out.stop (λy' r' h=>by simp only [ig] at h;rw [<-h.1];exact ae) r;rw [<-HN.out] at V;rw [V] at N;clear HI ad ay;refine eK ?_;refine Aq (λU=>Ext w2 U) 14 (.pure 0 (.pure 1 (.pure 2 (.pure 3 (.pure 4 (.pure 5 (.pure 6 (.pure 7 (.pure 8 (.pure 9 (.pure 10 (.pure 11 (.pure 12 (.pure 13 .tail)))))))))))))) mixed AT (Aa (Aa (Aa (Ae (Ae (Aa (Aa (Ae Ag)))))))) ?_;intro bc a2 _;have an:(λU=>Ext w2 U) bc:=a2;simp only at an;have Z:=rx;have aa:=ry;revert O G F N;refine eE a2 ?_;intro O G F N;refine ⟨an,?_⟩;refine Tq rfl Mv (Tq rfl Mv (Tq rfl V5 (Tq rfl Mv (eN rfl (Ar rfl) (eN rfl (Ar rfl) (eN rfl (Ar rfl) (eN rfl (AC Ac rfl rfl rfl rfl Ab Ab) (eN rfl (Ap Ac rfl rfl rfl (λU hz=>iT (iO Z hz) rfl)) (eN rfl (Ar rfl) (eN rfl (Ar rfl) (eN rfl (AK (c:=(p.length:Int)) rfl rfl Y) ?_)))))))))));refine eN rfl (AC Ac rfl rfl rfl rfl Ab Ab) (eN rfl (Ap Ac rfl rfl rfl (λU hz=>iT (iO aa hz) rfl)) ?_);refine At rfl (TV ?_);refine Ax (A9 (fi:=[]) (ca:=[.pointer (some ⟨bx,0,none⟩)]) AT rfl rfl (az.out _ Af Af) (λ_ _ h=>⟨_,h.1⟩)) rfl ?_ aFh;rintro _ bn ⟨⟨⟩,bd⟩;revert O G F N;refine eE bd ?_;intro O G F N;refine TV (C1 V3 (C1 TU (cT (VG (BF (Av (Av (AO (Ah (Ai (Al ?_)))))))))));refine C1 Mv (C1 V7 (C1 Pa (Ak ?_)))
      exact Aw (i+1) sB ⟨Ab,Ab,N,O,G,F⟩ Ab
 . obtain rfl:i=xs.length:=by omega
   rw [Km] at N;refine Aj (cS (C1 Mv (C1 Mv (C1 V3 (cT (C6 (BF (Av (Av (AO (Bi rfl ?_)))))))))));exact ⟨rfl,N,F⟩
set_option maxHeartbeats 8000000 in
def ZC (f:Value) (a:oA) (c:Nat) (w:wD):Calls prog 92 #[.slice a 0 c,.int .i64 0,.int .i64 0,f] w λe w'=>e = .returned (.tuple #[])/\Ext w w':=by
 have X:=iK w;refine Ad func92 ntmps92 rfl rfl (cS (C1 Mv (C1 V7 (C1 Pa (cT ?_)))));refine As ?_;refine AG (ι:=Unit) (λ_=>[(2,.int .i64 0),(8,.int .i64 1)]) (λ_ w'=>Ext w w') (λ_=>0) () sB X ?_;rintro _ w1 X;refine Aj (cS (C1 Mv (C1 Mv (C1 V3 (cT (Lb (BF (Av (Av (AO (Bi rfl ?_)))))))))));exact ⟨rfl,X⟩
def Ip (n:Nat) (h:n<=255) (w:wD):Calls prog 65 #[.int .u64 n] w λe w'=> ∃k:Int,e = .returned (.int .i64 k)/\Ext w w':=by
 have X:=iK w;have G:Hid (∀w1,Calls prog 101 #[.int .u64 n] w1 λe w'=> ∃k:Int,e = .returned (.int .i64 k)/\Ext w1 w'):=gp λw1=>(Tryz.bits_Len64 n w1 Ab Ab).mono λ_ _ ⟨M,h2⟩=>⟨_,M,by rw [h2];exact iK _⟩
 refine Ad func65 ntmps65 rfl rfl (eK ?_);refine Ax (AR AT rfl (G.out _) (λ_ _ ⟨_,h⟩=>⟨_,h.1⟩)) rfl ?_ aFh;rintro _ O ⟨U,⟨⟩,N⟩;have X:=X.ext N;refine kR ?_;exact ⟨_,rfl,X⟩
def bU (x y:Bv) (w:wD):Calls prog 131 #[str x,str y] w λe w'=>e = .returned (.bool (G0 x y))/\Ext w w':=by
 have X:=iK w;unfold G0;refine Ad func131 ntmps131 rfl rfl (kC (IX _ _) ?_);rintro _ G ⟨⟨⟩,h⟩;have X:=X.ext h;refine eK ?_;refine C1 (JC rfl rfl) (kR ?_);exact ⟨rfl,X⟩
set_option maxHeartbeats 8000000 in
def SA (M X:nP) (V:Nat) (es:List EX) (he:es.length<=1000) (Y:∀e∈es,0<=e.points/\e.points<=1000) (L:List AtV) (hL:L.length<=1000000) (N g cap:Nat) (xs:List Bv) (Z:∀x∈xs,x∈Bj L) (hn:1<=xs.length/\xs.length<=12) (hg:¬X g /\ ¬M g/\g≠N) (w:wD) (O:BkAt M X w V es L) (G:Blk w N [.pointer (some ⟨V,0,none⟩)]) (U:ArrT w g xs) :
 Calls prog 35 #[.slice (some ⟨g,0,none⟩) xs.length cap,ZZ N] w λe w'=>e = .returned (.tuple #[])/\ArrT w' g (Ft (MX L (Ir es)) xs)/\Fr (· = g) w w':=by
 have HI:=gp (λw1 h1 h2 h3=>bT M X V es he Y L hL N g cap xs Z hn hg w1 h1 h2 h3);have HQ:Hid (∀(k:Int) w1,BkAt M X w1 V es L->Blk w1 N [.pointer (some ⟨V,0,none⟩)]->ArrT w1 g xs->Calls prog 64 #[.slice (some ⟨g,0,none⟩) xs.length cap,.int .i64 0,.int .i64 xs.length,.int .i64 k,ZZ N] w1 λe w'=>e = .returned (.tuple #[])/\ArrT w' g (Ft (MX L (Ir es)) xs)/\Fr (· = g) w1 w'):=gp λk w1 O G U=>by
  have F:=iP (· = g) w1;clear Y Z;refine Ad func64 ntmps64 rfl rfl (cS (C1 Pa (cN (C1 Pa (cT ?_)))));refine As ?_;refine AG (ι:=Unit) (λ_=>[(0,.slice (some ⟨g,0,none⟩) xs.length cap),(1,.int .i64 0),(2,.int .i64 xs.length),(3,.int .i64 k),(4,ZZ N)]) (λ_ w'=>ArrT w' g xs/\BkAt M X w' V es L/\Blk w' N [.pointer (some ⟨V,0,none⟩)]/\Fr (· = g) w1 w') (λ_=>0) () sB ⟨U,O,G,F⟩ ?_;clear U O G F;rintro _ w2 ⟨U,O,G,F⟩;refine eK ?_;refine C1 (AK rfl rfl (gz _ Ab)) (kC (HI.out _ Af Af Af) ?_);rintro _ ad ⟨⟨⟩,ae,aa⟩;clear U O;have F:=F.fr aa Ab;refine eK ?_;refine EF rfl ?_;exact ⟨rfl,Af,F⟩
 have F:=iP (· = g) w;clear Y Z HI;refine Ad func35 ntmps35 rfl rfl (eK ?_);refine C1 (Fj Ac rfl rfl rfl (Jb _ Ab Ab)) (Ax (AR AT rfl (Ip xs.length Ab _) (λ_ _ ⟨_,h⟩=>⟨_,h.1⟩)) rfl ?_ aFh);rintro _ af ⟨ag,⟨⟩,ab⟩;revert O G U F;refine eE ab ?_;intro O G U F;refine C1 Mv (cC rfl (HQ.out _ _ Af Af Af) ?_);rintro _ ah ⟨⟨⟩,ai,ac⟩;clear O U;have F:=F.fr ac Ab;refine Ak (Bi rfl ?_);exact ⟨rfl,Af,F⟩
set_option maxHeartbeats 8000000 in
def Rb (f:Value) (a:oA) (c:Nat) (w:wD):Calls prog 35 #[.slice a 0 c,f] w λe w'=>e = .returned (.tuple #[])/\Ext w w':=by
 have O:Hid (∀(k:Int) w1,Calls prog 64 #[.slice a 0 c,.int .i64 0,.int .i64 0,.int .i64 k,f] w1 λe w'=>e = .returned (.tuple #[])/\Ext w1 w'):=gp λk w1=>by
  have X:=iK w1;refine Ad func64 ntmps64 rfl rfl (cS (C1 Pa (cN (C1 Pa (cT ?_)))));refine As ?_;refine AG (ι:=Unit) (λ_=>[(0,.slice a 0 c),(1,.int .i64 0),(2,.int .i64 0),(3,.int .i64 k),(4,f)]) (λ_ w'=>Ext w1 w') (λ_=>0) () sB X ?_;rintro _ w2 X;refine eK ?_;refine C1 (AK rfl rfl (gz _ Ab)) (kC (ZC _ _ _ _) ?_);rintro _ U ⟨⟨⟩,G⟩;have X:=X.ext G;refine eK ?_;refine EF rfl ?_;exact ⟨rfl,X⟩
 have X:=iK w;refine Ad func35 ntmps35 rfl rfl (eK ?_);refine C1 (Fj Ac rfl rfl rfl (Jb _ Ab Ab)) (Ax (AR AT rfl (Ip 0 Ab _) (λ_ _ ⟨_,h⟩=>⟨_,h.1⟩)) rfl ?_ aFh);rintro _ V ⟨Y,⟨⟩,M⟩;have X:=X.ext M;refine C1 Mv (cC rfl (O.out _ _) ?_);rintro _ Z ⟨⟨⟩,N⟩;have X:=X.ext N;refine Ak (Bi rfl ?_);exact ⟨rfl,X⟩
def Rc (_:Nat) (_:wD) (vs:lV) (x:Bv):Prop:=vs=[str x]
def dY {vs:lV} {s:Bv} (h:Rc G w vs s):∃u,vs=[u]:=⟨_,h⟩
def XH (K p:List Bv):Prop:= ∃S:List Bv,S.Perm K/\p <+: S
def MO {α β:Type} (f:α->β):∀(l:List α) (j:Nat) (p:α),l[j]? = some p->(f p::(l.eraseIdx j).map f).Perm (l.map f)
 | [],j,p,h=>by simp at h
 | x::l,0,p,h=>by
  simp only [gX,gy] at h;subst h;simp
 | x::l,j+1,p,h=>by
  have:=MO f l j p (by simpa using h);simp only [List.eraseIdx_cons_succ,im];exact (List.Perm.swap _ _ _).trans (this.cons _)
set_option maxHeartbeats 8000000 in
def ZD (m bm:Nat) (kvs:List (lB×Value)) (Rt:nP) (w:wD) (ad:∀k,Rt k->k<w.heap.size) (hR:Rt m/\Rt bm) (p1:Blk w bm [.map (some m)]) (p2:MapB w m kvs) :
 Jn prog 63 [.pointer (some ⟨bm,0,none⟩)] Rc Rt (XH (kvs.map (·.1))) (·.Perm (kvs.map (·.1))) w:=by
 intro y J Jx W hK hJ an hY h0;have ao:=hK.size;have p1:=p1.fr hK (λe=>e hR.2);have p2:=p2.fr hK (λe=>e hR.1);have ae:∀k,Rt k->k<W.heap.size:=λk G=>Nat.lt_of_lt_of_le (ad k G) ao
 have HY:=gp hY;have HJ:=gp hJ;have H0:=gp h0;have HR:=gp ae;clear hY hJ an h0 ad ae hK;have X:=iK W;show Calls _ _ #[.func (.yield y) #[] #[],.pointer (some ⟨bm,0,none⟩)] W _;refine Ad func63 ntmps63 rfl rfl ?_;refine eK ?_;refine Ax (KS Ac rfl rfl Af) rfl ?_ aFh;rintro _ w6 ⟨r1,rfl,h2,h3,h4,x5⟩;revert p1 p2 X;refine eY x5 ?_;intro z7 p1 p2 X;refine cT ?_;obtain ⟨A,hA⟩:∃A:nP,A=λk=>W.heap.size<=k/\k<w6.heap.size:=⟨_,rfl⟩
 have Y:∀k,A k->W.heap.size<=k/\k<w6.heap.size:=λk G=>by rw [hA] at G;exact G
 have af:A r1:=by rw [hA];exact ⟨h2,h3⟩
 have hj:J A [] w6:=HJ.out (λ_=>False) A [] W w6 H0.out ⟨X.os,X.tape,X.output,X.size,λk G _=>X.block G⟩ (λ_ h=>h.elim) (λk G=>(Y k G).1) (λk G h=>by have:=Y k h;omega);have hz:=X.size;clear hA p1 p2 H0 X;refine As ?_;refine AG (ι:=List (lB×Value)×List Bv×(nP)) (λ_=>[(0,.func (.yield y) #[] #[]),(5,.pointer (some ⟨r1,0,none⟩))])
  (λx w'=> ∃cur,ItM w' r1 m x.1 cur/\(x.2.1++x.1.map (·.1)).Perm (kvs.map (·.1))/\J x.2.2 x.2.1 w'/\x.2.2 r1/\(∀k,x.2.2 k->W.heap.size<=k/\k<w'.heap.size)/\W.heap.size<=w'.heap.size) (λx=>x.1.length) (kvs,[],A) sB ⟨none,h4,AN,hj,af,Y,hz⟩ ?_
 clear h4 hj af Y hz;rintro ⟨M,pre,B⟩ w7 ⟨cur,h4,hp,hj,hB,Z,hz⟩;simp only at h4 hp hj hB Z;cases M with
 | nil=>
  rw [List.map_nil,List.append_nil] at hp;have X:=iK w7;refine cS ?_;refine Ax (KT rfl Af) rfl ?_ aFh;rintro _ ax ⟨rfl,rfl⟩;refine C1 Px (cT (Aj (AY rfl (BF (Av (Av (AO (Bi rfl ?_))))))));exact ⟨⟨_,rfl⟩,B,λk h=>(Z k h).1,gq ⟨pre,hp,Af⟩⟩
 | cons q0 ag=>
  generalize ah:q0::ag=M at *;have ai:M≠[]:=by rw [<-ah];simp
  have F:=iP (· = r1) w7;have ay:=h4.lt;refine cS ?_;refine Ax (Md rfl Af ai) rfl ?_ aFh;rintro _ O ⟨U,N,aa,rfl,ap,aj⟩;have az:=aj.size;have F:=F.fr aj Ab;refine eK ?_;refine C1 (Nz rfl (λwz hz=>by rw [show wz=_ from hz];assumption)) (C1 Px (C1 Pa (cT ?_)));have ab:=MO (·.1) M U N aa;have aq:(M.eraseIdx U).length<M.length:=by
   have:=(List.getElem?_eq_some_iff.1 aa).1;rw [List.length_eraseIdx];split<;>omega
  have a0:=F.size;obtain ⟨C,hC⟩:∃C:nP,C=λk=>B k\/(w7.heap.size<=k/\k<O.heap.size):=⟨_,rfl⟩
  have ak:∀k,B k->C k:=λk G=>by rw [hC];exact gq G
  have V:∀k,C k->W.heap.size<=k/\k<O.heap.size:=λk G=>by
   rw [hC] at G;rcases G with G|G
   . have:=Z k G;omega
   . omega
  have ar:J C pre O:=HJ.out B C pre w7 O hj (F.weaken λk (e:k=r1)=>by subst e;exact hB) (λk G=>(Z k G).1) (λk G=>(V k G).1) (λk G h=>by rw [hC] at h;exact h.elim id (λh=>by omega));have al:XH (kvs.map (·.1)) (pre++[N.1]):=⟨_,(show (pre++[N.1]++(M.eraseIdx U).map (·.1)).Perm _ by rw [gZ];exact (List.Perm.append_left pre ab).trans hp),List.prefix_append _ _⟩
  have au:(pre++[N.1]++(M.eraseIdx U).map (·.1)).Perm (kvs.map (·.1)):=by rw [gZ];exact (List.Perm.append_left pre ab).trans hp
  clear hC hj hp ab aa F ah ai;refine Aj (dT (TC rfl (Ar rfl) rfl (TC rfl (Ar rfl) rfl (LO rfl rfl (HY.out C pre N.1 [str N.1] O V ar rfl al) (λ_ _ h=>by obtain ⟨-,⟨h,-⟩|⟨h,-⟩⟩:=h<;>exact ⟨_,h⟩) rfl ?_))));rintro v w8 ⟨am,av⟩;refine Wf (λ⟨_,_,h⟩=>by obtain ⟨⟨_,h⟩,-⟩:=(show (∃v,Ending.outgrown = .returned v)/\_ from h);cases h) rfl ?_;have aw:=ap.fr am ⟨λe=>e (gq (ak _ hB)),λe=>e (gt hR.1)⟩;have a1:=am.size;rcases av with ⟨⟨⟩,ac⟩|⟨⟨⟩,ac⟩
  . refine C1 Pt (cT (AY rfl (Ao (Ah ?_))));exact Aw (M.eraseIdx U,pre++[N.1],C) sB ⟨_,aw,au,ac,ak _ hB,λk G=>⟨(V k G).1,by have:=(V k G).2;omega⟩,Ab⟩ aq
  . refine eK ?_;refine EF rfl ?_;exact ⟨⟨_,rfl⟩,C,λk h=>(V k h).1,gt ⟨_,al,ac⟩⟩
def KeysR (K:List Bv) (m:Nat) (w:wD):Ending->wD->Prop:=λe w'=> ∃bm,e = .returned (.func (.func 63) #[] #[.pointer (some ⟨bm,0,none⟩)]) /\
 Jn prog 63 [.pointer (some ⟨bm,0,none⟩)] Rc (λk=>k=m\/k=bm) (XH K) (·.Perm K) w'/\m<w'.heap.size/\w.heap.size<=bm/\bm<w'.heap.size/\Ext w w'
def KeysR.ret {K:List Bv} {m:Nat} (h:KeysR K m w e w'):∃v,e = .returned v:=by
 obtain ⟨_,h,-⟩:=h;exact ⟨_,h⟩
set_option maxHeartbeats 8000000 in
def bW (m:Nat) (kvs:List (lB×Value)) (w:wD) (h:MapB w m kvs) :
 Calls prog 34 #[.map (some m)] w (KeysR (kvs.map (·.1)) m w):=by
 have X:=iK w;have M:=h.lt;refine Ad func34 ntmps34 rfl rfl (cS (eB [_] ?_));intro U V G N Y Z;revert h X;refine eE N ?_;intro h X;refine eK ?_;refine C1 (BW rfl) (kR ?_);have O:=G.lt;exact ⟨_,rfl,ZD m _ kvs _ _ (λk hk=>by omega) ⟨gq rfl,gt rfl⟩ G Af,Ab,Ab,Ab,X⟩
def NamsR (F:List Bv->Prop) (w:wD):Ending->wD->Prop:=λe w'=> ∃a c xs,e = .returned (.slice a xs.length c)/\F xs/\OwnQ strShape w' (λ_=>False) w.heap.size 9 (.slice a xs.length c) xs/\Ext w w'
def NamsR.ret {F:List Bv->Prop} (h:NamsR F w e w'):∃v,e = .returned v:=by
 obtain ⟨_,_,_,h,-⟩:=h;exact ⟨_,h⟩
set_option maxHeartbeats 8000000 in
def XI (gf:Nat) (lb:lV) (eg:BT prog gf=true) (Rt:nP) (ah Fin:List Bv->Prop) (hN:∀p,ah p->p.length<=1000000) (w:wD) (ai:∀k,Rt k->k<w.heap.size) (aj:∀w1,Ext w w1->Jn prog gf lb Rc Rt ah Fin w1) :
 Calls prog 90 #[.slice none 0 0,.func (.func gf) #[] lb.toArray] w (NamsR Fin w):=by
 have HI:=gp aj;have HN:=gp hN;have HR:=gp ai;clear aj hN ai;have X:=iK w;refine Gk (args:=[_,_]) func90 ntmps90 rfl rfl (cS (eB [_] ?_));intro b1 w2 h4 x5 p6 z7;replace X:=X.ext x5;refine C1 Pa (cT (Aj (cS (C1 Mv (cT ?_)))));refine As ?_;refine MI rfl rfl eg (HI.out _ X) (λ_ _ _ _ h=>dY h) (λk G=>by have:=HR.out k G;have:=X.size;omega)
  (λA xs W=> ∃N O,xs.length<=1000000/\Blk W b1 [.slice N xs.length O]/\OwnQ strShape W (λ_=>False) w.heap.size 9 (.slice N xs.length O) xs/\(∀g,(gN N xs.length O).ownBlock=some g -> ¬A g/\w2.heap.size<=g)/\Ext w W)
  (λ_ _ _=>False) ?_ (λ_ _ _ _ _ h=>h.elim) ⟨none,0,gC _,h4,OwnQ.nil,λg U=>by simp [iI] at U,X⟩ ?_ ?_ (λ_ _ _ _ _ h=>h.elim)
 . rintro A A' xs W W' ⟨N,O,h0,h1,h2,h3,x⟩ hf hA-ao;exact ⟨N,O,h0,h1.fr hf (λe=>by have:=hA _ e;omega),h2.fr hf (λk G=>⟨id,λe=>(h3 k e).1 G⟩),λg U=>⟨λe=>(h3 g U).1 (ao g (h2.lt U) e),(h3 g U).2⟩,iY x hf (λk G=>by have:=hA _ G;omega)⟩
 . rintro r A pre x u W hA ak ⟨N,O,ap,j1,j2,j3,V⟩ eu ab;obtain rfl:u=str x:=by simpa [Rc] using eu
   have M:∀g,(gN N pre.length O).ownBlock=some g -> ¬A g/\w2.heap.size<=g/\g<W.heap.size:=λg U=>⟨(j3 g U).1,(j3 g U).2,j2.lt U⟩
   have af:=HN.out _ ab;rw [gO] at af;simp only [gD,hH] at af;have aw:=hA _ ak;have X1:=iK W;clear h4 X j3 ab HI HN;refine Bp rfl Gl (C1 Pa (Ak (Ij (Keeps.of_ext X1) λW2 f2=>?_)))
   replace j1:=j1.fr f2 Ab;replace j2:=j2.fr f2 (λk e=>⟨id,λh=>(M k h).1 (e▸ak)⟩);replace V:=iY V f2 (λk G=>by omega);have ax:=f2.size;have al:=gp (show ∀k,A k->w2.heap.size<=k/\k<W2.heap.size from λk G=>by have:=hA k G;omega);clear X1 f2 hA eu;have X3:=iP (λk=>k=b1\/(gN N pre.length O).ownBlock=some k) W2;have hK:Hid (∀k,A k\/Rt k -> ¬(k=b1\/(gN N pre.length O).ownBlock=some k)):=gp λk G h=>by
    rcases h with h|h
    . rcases G with G|G
      . have:=al.out k G;omega
      . have:=HR.out k G;omega
    . rcases G with G|G
      . exact (M k h).1 G
      . have:=M k h;have:=HR.out k G;omega
   refine Gj (Bp rfl (Bw BV) (eK ?_));refine Ax (C2 [_] Ac Cs rfl rfl rfl rfl rfl rfl rfl rfl rfl) rfl ?_ aFh;rintro _ ay ⟨az,rfl,aa,a0⟩;have a1:=aa.blk;have aq:=aa.ext;have a2:=aa.pos;have a3:=aa.size;revert j1 j2 V X3;refine eE aq ?_;intro j1 j2 V X3;refine Da (R:=λ_=>False) (sh:=strShape) (z:=x) Ac Cs rfl rfl rfl rfl AT rfl rfl rfl Af (λ_ h=>by exact h) (Blk.row Af) rfl Ab Ab rfl ?_;rintro ag Y ar ac ad au Z;replace j1:=iN j1 Z (λh=>by have:=M _ h;omega);replace V:=iY V Z (λk G=>by have:=M _ G;omega);replace X3:=iU X3 Z (λk G=>gq (gt G));refine eS [_] j1 ?_;intro av am ae _;replace ac:=OwnQ.fr ac ae (λk G=>⟨id,λe=>by (obtain rfl:=gB (show some ag=some k from e);rcases ad with h|h;have:=M _ h;omega;omega)⟩);revert V X3;refine eF ae ?_;intro V X3;refine Ak (Ah (IT (Keeps.of_fr X3 hK.out) ⟨some ⟨ag,0,none⟩,Y,by rw [gO];simpa using af,am,Af,λg U=>?_,V⟩));obtain rfl:=gB (show some ag=some g from U);rcases ad with h|h
   . exact ⟨(M _ h).1,(M _ h).2.1⟩
   . exact ⟨λhA=>by have:=al.out _ hA;omega,Ab⟩
 . rintro A S W hS hA ⟨N,O,ap,j1,j2,j3,V⟩ hm G;refine Ik (Dw (Ig (Eu (Fs (Ap Ac rfl rfl rfl (λwz hz=>by rw [show wz=W from hz];exact j1.cell rfl)) rfl (Fs (Gv rfl) rfl (GO (Dw (Jr (PV G rfl rfl (λw3 an=>?_))))))))));exact ⟨N,O,S,rfl,hS,j2.fr an (λk e=>⟨id,λh=>(j3 k h).1 (e▸hm)⟩),iY V an (λk e=>by omega)⟩
def Vj (N:Nat) (O:lV) (Z:BT prog N=true) (U:nP) (h Fin:List Bv->Prop) (Y:∀p,h p->p.length<=1000000) (w:wD) (G:∀k,U k->k<w.heap.size) (M:∀w1,Ext w w1->Jn prog N O Rc U h Fin w1) :
 Calls prog 61 #[.func (.func N) #[] O.toArray] w (NamsR Fin w):=by
 have X:=iK w;have HA:=gp (λw1 (x:Ext w w1)=>XI N O Z U h Fin Y w1 (λk V=>by have:=G k V;have:=x.size;omega) (λw2 x2=>M w2 (x.trans x2)));clear M Y G;refine Ad func61 ntmps61 rfl rfl (kQ (HA.out _ Af) ?_);rintro _ w7 ⟨a1,c2,aa,⟨⟩,h4,h5,x6⟩;have X:=X.ext x6;refine kR ?_;exact ⟨_,_,_,rfl,Af,OwnQ.below Af (λk V=>by have:=OwnQ.ge Af V;omega),X⟩
set_option maxHeartbeats 8000000 in
def bX (g cap:Nat) (xs:List Bv) (hn:1<=xs.length/\xs.length<=12) (w:wD) (G:ArrT w g xs) :
 Calls prog 125 #[.slice (some ⟨g,0,none⟩) xs.length cap,.int .i64 0,.int .i64 xs.length] w λe w'=>e = .returned (.tuple #[])/\ArrT w' g (Ft G0 xs)/\Fr (· = g) w w':=by
 have F:=iP (· = g) w;have HC:=gp (λs t w1=>bU s t w1);generalize G0=lt at *;refine Ad func125 ntmps125 rfl rfl (cS (C1 Mv (C1 V7 (C1 Pa (cT ?_)))));refine As ?_;refine AG (ι:=Nat) (λi=>[(0,.slice (some ⟨g,0,none⟩) xs.length cap),(1,.int .i64 0),(2,.int .i64 xs.length),(6,.int .i64 i)])
  (λi w'=>1<=i/\i<=xs.length/\ArrT w' g (MM lt xs i)/\Fr (· = g) w w') (λi=>xs.length-i) 1 sB ⟨gI _,hn.1,by rw [MN hn.1];exact G,F⟩ ?_
 clear G F;rintro i w1 ⟨a7,hi,G,F⟩;by_cases aj:i<xs.length
 . have au:=Kl (lt:=lt) (xs.take i);rw [ij] at au;have ak:=NV (lt:=lt) aj;rw [Ra aj] at G;have a8:(xs.drop (i+1)).length=xs.length-(i+1):=List.length_drop ..;have HN:=gp ak;clear ak;generalize a9:FT lt (xs.take i)=acc at *;generalize xs.drop (i+1)=r at *;generalize xs[i]=x at *;refine Aj (cS (C1 Mv (C1 Mv (C1 V3 (cT (O8 (Ao (Ai (Aj (As (cS (C1 Mv (C1 Pa (cT ?_))))))))))))));refine As ?_;refine AG (ι:=List Bv×List Bv) (λz=>[(0,.slice (some ⟨g,0,none⟩) xs.length cap),(1,.int .i64 0),(2,.int .i64 xs.length),(6,.int .i64 i),(7,.int .i64 z.1.length)])
    (λz w'=>InsI lt x acc z.1 z.2/\z.1.length+z.2.length=i/\ArrT w' g (G1 z.1 x z.2 r)/\Fr (· = g) w w') (λz=>z.1.length) (acc,[]) (by (refine Am rfl ?_;refine Am rfl ?_;refine Am rfl ?_;refine Am rfl ?_;refine BL rfl (by go_num) ?_;exact BB)) ⟨InsI.first x acc,by simp only [hH];omega,G,F⟩ ?_
   clear G F;rintro ⟨p,q⟩ w2 ⟨hI,ag,G,F⟩;simp only at hI ag G;refine jl (m:=[(0,.slice (some ⟨g,0,none⟩) xs.length cap),(1,.int .i64 0),(2,.int .i64 xs.length),(6,.int .i64 i),(7,.int .i64 p.length)]) ?_ sB;have rx:=G.row1 (XF p x q r);have al:=Q9 p x q r;cases p with
   | nil=>
    have N:=hI.stop (λy r h=>by cases h) r;rw [<-HN.out] at N;rw [N] at G;refine eK ?_;refine Aq (λM=>Ext w2 M) 13 (.pure 0 (.pure 1 (.pure 2 (.pure 3 (.pure 4 (.pure 5 (.pure 6 (.pure 7 (.pure 8 (.pure 9 (.pure 10 (.pure 11 (.pure 12 .tail))))))))))))) mixed AT (Aa (Aa (Aa (Ae (Ae (Aa (Aa (Ae Ag)))))))) ?_;intro av am _;have ac:(λM=>Ext w2 M) av:=am;simp only at ac;revert F G;refine eE am ?_;intro F G;refine ⟨ac,?_⟩;refine Tq rfl Mv (Tq rfl Mv (Tq rfl V5 (Tq rfl Mv (eM rfl (eM rfl (eM rfl (eM rfl (eM rfl (eM rfl (eM rfl (eM rfl (eM rfl (At rfl (X0 (C1 XZ (cT (AY rfl (BF (Av (Av (AO (Ah (Ai (Al (C1 Mv (C1 V7 (C1 Pa (Ak ?_))))))))))))))))))))))))))));exact Aw (i+1) sB ⟨Ab,Ab,G,F⟩ Ab
   | cons y p=>
    have ry:=G.row1 (XG y p x q r);have an:=NU y p x q r;have aa:=gp (HC.out x y);have O:iG .i64 ((p.length:Int)+1-1)=(p.length:Int):=by rw [Int.add_sub_cancel];exact gz _ (by simp only [gD] at ag;omega)
    have HI:=gp hI;simp only [gD] at rx al ag;clear hI;refine jl (m:=[(0,.slice (some ⟨g,0,none⟩) xs.length cap),(1,.int .i64 0),(2,.int .i64 xs.length),(6,.int .i64 i),(7,.int .i64 ((p.length:Int)+1))]) ?_ sB;by_cases Y:lt x y=true
    . have aw:=HI.out.step Y;rw [Y] at aa;clear HI;generalize G1 (y::p) x q r=row at *;refine eK ?_;refine Aq (λM=>Ext w2 M) 13 (.pure 0 (.pure 1 (.pure 2 (.pure 3 (.pure 4 (.pure 5 (.pure 6 (.pure 7 (.pure 8 (.pure 9 (.pure 10 (.pure 11 (.pure 12 .tail))))))))))))) mixed AT (Aa (Aa (Aa (Ae (Ae (Aa (Aa (Ae Ag)))))))) ?_;intro ax ao _;have ad:(λM=>Ext w2 M) ax:=ao;simp only at ad;have U:=rx;have V:=ry;revert F rx ry G;refine eE ao ?_;intro F rx ry G;refine ⟨ad,?_⟩;refine Tq rfl Mv (Tq rfl Mv (Tq rfl V5 (Tq rfl Mv (eN rfl (Ar rfl) (eN rfl (Ar rfl) (eN rfl (AC Ac rfl rfl rfl rfl Ab Ab) (eN rfl (Ap Ac rfl rfl rfl (λM Z=>iT (iO U Z) rfl)) (eN rfl (Ar rfl) (eN rfl (Ar rfl) (eN rfl (AK (c:=(p.length:Int)) rfl rfl O) (eN rfl (AC Ac rfl rfl rfl rfl Ab Ab) (eN rfl (Ap Ac rfl rfl rfl (λM Z=>iT (iO V Z) rfl)) (At rfl (TV (cC rfl (aa.out _) ?_)))))))))))))));rintro _ ab ⟨⟨⟩,ay⟩;revert F rx ry G;refine eE ay ?_;intro F rx ry G;refine eK ?_;refine EM (λM=>Ext ab M) (λM=>Fr (λx=>x=g) ab M) [2,3,4,15,16,17] [2,3,4] 15 16 (.free 2 (.free 3 (.free 4 (.pure 0 (.pure 1 (.pure 5 (.pure 6 (.pure 7 (.pure 8 (.pure 9 (.pure 10 (.pure 11 (.pure 12 (.pure 13 (.pure 14 (.put 15 (.tail 16))))))))))))))))) (λ_ h=>iM h) mixed AT (Ae (Aa (Aa (Ae (Ae (Aa (Aa (Ae Ag)))))))) ?_;intro ap ah _;have ai:(λM=>Ext ab M) ap:=ah;simp only at ai;have X:(λM=>Fr (λx=>x=g) ab M) ap:=iM ah;simp only at X;have U:=rx;have V:=ry;revert F G;refine eE ah ?_;intro F G;refine Bl Af rfl (Ar rfl) rfl (Bl Af rfl (Ar rfl) rfl (Bl Af rfl (AK (c:=(p.length:Int)) rfl rfl O) rfl (An Af rfl (Ar rfl) rfl (An Af rfl (Ar rfl) rfl (An Af rfl (Ar rfl) rfl (An Af rfl (Ar rfl) rfl (An Af rfl (AK (c:=(p.length:Int)) rfl rfl O) rfl (An Af rfl (AC Ac rfl rfl rfl rfl Ab Ab) rfl (An Af rfl (Ap Ac rfl rfl rfl (λM Z=>iT (iO V Z) rfl)) rfl (An Af rfl (Ar rfl) rfl (An Af rfl (Ar rfl) rfl ?_)))))))))))
      refine An Af rfl (AC Ac rfl rfl rfl rfl Ab Ab) rfl (An Af rfl (Ap Ac rfl rfl rfl (λM Z=>iT (iO U Z) rfl)) rfl (An Af rfl (AC Ac rfl rfl rfl rfl Ab Ab) rfl (Du rfl (FU (j:=p.length+1) (z:=y) Ac rfl rfl rfl rfl Af Ab) (BA ?_))));rintro _ a1 ⟨a2,ae,a3⟩;revert X F;refine eF ae ?_;intro X F;clear rx ry G ae;refine ⟨Af,?_⟩;refine Dt rfl (C1 Pi (A2 (FU (j:=p.length) (z:=x) Ac rfl rfl rfl rfl Af (by rw [List.length_set];omega)) (BA ?_)));rintro _ a4 ⟨a5,aq,a6⟩;have F:=F.fr aq Ab;refine eK ?_;refine C1 (AK (c:=(p.length:Int)) rfl rfl O) (C1 Pa (Ak ?_));exact Aw (p,y::q) sB ⟨aw,by simp only [gD];omega,by rw [<-an];assumption,F⟩ AN
    . rw [Bool.not_eq_true] at Y;rw [Y] at aa;have N:=HI.out.stop (λy' r' h=>by simp only [ig] at h;rw [<-h.1];exact Y) r;rw [<-HN.out] at N;rw [N] at G;clear HI an;refine eK ?_;refine Aq (λM=>Ext w2 M) 13 (.pure 0 (.pure 1 (.pure 2 (.pure 3 (.pure 4 (.pure 5 (.pure 6 (.pure 7 (.pure 8 (.pure 9 (.pure 10 (.pure 11 (.pure 12 .tail))))))))))))) mixed AT (Aa (Aa (Aa (Ae (Ae (Aa (Aa (Ae Ag)))))))) ?_;intro az ar _;have af:(λM=>Ext w2 M) az:=ar;simp only at af;have U:=rx;have V:=ry;revert F G;refine eE ar ?_;intro F G;refine ⟨af,?_⟩;refine Tq rfl Mv (Tq rfl Mv (Tq rfl V5 (Tq rfl Mv (eN rfl (Ar rfl) (eN rfl (Ar rfl) (eN rfl (AC Ac rfl rfl rfl rfl Ab Ab) (eN rfl (Ap Ac rfl rfl rfl (λM Z=>iT (iO U Z) rfl)) (eN rfl (Ar rfl) (eN rfl (Ar rfl) (eN rfl (AK (c:=(p.length:Int)) rfl rfl O) (eN rfl (AC Ac rfl rfl rfl rfl Ab Ab) (eN rfl (Ap Ac rfl rfl rfl (λM Z=>iT (iO V Z) rfl)) (At rfl (TV (cC rfl (aa.out _) ?_)))))))))))))));rintro _ ba ⟨⟨⟩,a0⟩;revert F G;refine eE a0 ?_;intro F G;refine C1 TU (cT (AY rfl (BF (Av (Av (AO (Ah (Ai (Al (C1 Mv (C1 V7 (C1 Pa (Ak ?_)))))))))))))
      exact Aw (i+1) sB ⟨Ab,Ab,G,F⟩ Ab
 . obtain rfl:i=xs.length:=by omega
   rw [Km] at G;refine Aj (cS (C1 Mv (C1 Mv (C1 V3 (cT (C6 (BF (Av (Av (AO (Bi rfl ?_)))))))))));exact ⟨rfl,G,F⟩
def NamAt (S:nP) (w:wD) (xs:List Bv) (a:oA):Prop:=xs=[] \/ ∃g,a=some ⟨g,0,none⟩/\S g/\ArrT w g xs
def NamAt.ext {S:nP} {w w':wD} {xs:List Bv} {a:oA} (h:NamAt S w xs a) (x:Ext w w'):NamAt S w' xs a:=h.imp id λ⟨g,h1,h2,h3⟩=>⟨g,h1,h2,h3.ext x⟩
instance:LfE w w' (NamAt S w xs a) (NamAt S w' xs a):=⟨λx h=>Bk.NamAt.ext h x⟩
def Z0:∀xs:List Bv,(xs.map λx=>[str x]).flatten=xs.map str
 | []=>rfl
 | x::r=>by simp only [im,List.flatten_cons,Z0 r];rfl
def OwnQ.namAt {R:nP} {B e:Nat} {n c:Nat} (h:OwnQ strShape w R B e (.slice a n c) xs):NamAt (λb=>B<=b/\b<w.heap.size) w xs a:=by
 by_cases N:xs=[]
 . exact gq N
 . obtain ⟨G,U,V,X⟩:=h.ex;have M:=λk Y=>h.lt (k:=k) Y
   obtain ⟨h4,⟨h5,Z⟩|⟨g,cap,cur,O,hg,hh,-,-,-,h7⟩⟩:=U
   . exact absurd (List.eq_nil_of_length_eq_zero Z) N
   . simp only [gR] at O;obtain ⟨rfl,-,-⟩:=O;refine gt ⟨g,rfl,⟨hg,M g rfl⟩,cur.toList.drop (xs.length*strShape.sz),e,?_⟩;have e1:G=xs.map λx=>[str x]:=by
      refine List.ext_getElem (by simp [V]) λi hi aa=>?_
      rw [List.getElem_map];exact X i xs[i] G[i] (gm Ab) (gm hi)
     have e2:G.flatten=xs.map str:=by rw [e1,Z0]
     rw [<-e2,<-h7,List.take_append_drop];exact hh
def NamR (xs:List Bv) (w:wD):Ending->wD->Prop:=λe w'=> ∃a c,e = .returned (.slice a xs.length c)/\NamAt (λb=>w.heap.size<=b/\b<w'.heap.size) w' xs a/\Ext w w'
def NamR.ret (h:NamR xs w e w'):∃v,e = .returned v:=by
 obtain ⟨_,_,h,-⟩:=h;exact ⟨_,h⟩
def NW {α:Type} (lt:α->α->Bool) (l:List α):(Ft lt l).length=l.length:=by
 rw [<-Km];unfold MM;simp [Kl]
set_option maxHeartbeats 8000000 in
def bZ (g cap:Nat) (xs:List Bv) (V:1<=xs.length/\xs.length<=12) (w:wD) (G:ArrT w g xs) :
 Calls prog 62 #[.slice (some ⟨g,0,none⟩) xs.length cap] w λe w'=>e = .returned (.tuple #[])/\ArrT w' g (Ft G0 xs)/\Fr (· = g) w w':=by
 have U:=gp (λw1 h=>bX g cap xs V w1 h);have X:Hid (∀(k:Int) w1,ArrT w1 g xs->Calls prog 91 #[.slice (some ⟨g,0,none⟩) xs.length cap,.int .i64 0,.int .i64 xs.length,.int .i64 k] w1 λe w'=>e = .returned (.tuple #[])/\ArrT w' g (Ft G0 xs)/\Fr (· = g) w1 w'):=gp λk w1 G=>by
  have F:=iP (· = g) w1;refine Ad func91 ntmps91 rfl rfl (cS (C1 Pa (cN (C1 Pa (cT ?_)))));refine As ?_;refine AG (ι:=Unit) (λ_=>[(0,.slice (some ⟨g,0,none⟩) xs.length cap),(1,.int .i64 0),(2,.int .i64 xs.length),(3,.int .i64 k)]) (λ_ w'=>ArrT w' g xs/\Fr (· = g) w1 w') (λ_=>0) () sB ⟨G,F⟩ ?_;clear G F;rintro _ w2 ⟨G,F⟩;refine eK ?_;refine C1 (AK rfl rfl (gz _ Ab)) (kC (U.out _ Af) ?_);rintro _ Y ⟨⟨⟩,Z,M⟩;clear G;have F:=F.fr M Ab;refine eK ?_;refine EF rfl ?_;exact ⟨rfl,Af,F⟩
 have F:=iP (· = g) w;clear U;refine Ad func62 ntmps62 rfl rfl (eK ?_);refine C1 (Fj Ac rfl rfl rfl (Jb _ Ab Ab)) (Ax (AR AT rfl (Ip xs.length Ab _) (λ_ _ ⟨_,h⟩=>⟨_,h.1⟩)) rfl ?_ aFh);rintro _ aa ⟨ab,⟨⟩,N⟩;revert G F;refine eE N ?_;intro G F;refine cC rfl (X.out _ _ Af) ?_;rintro _ ac ⟨⟨⟩,ad,O⟩;clear G;have F:=F.fr O Ab;refine Ak (Bi rfl ?_);exact ⟨rfl,Af,F⟩
set_option maxHeartbeats 8000000 in
def ZE (a:oA) (c:Nat) (w:wD):Calls prog 62 #[.slice a 0 c] w λe w'=>e = .returned (.tuple #[])/\Ext w w':=by
 have O:Hid (∀w1,Calls prog 125 #[.slice a 0 c,.int .i64 0,.int .i64 0] w1 λe w'=>e = .returned (.tuple #[])/\Ext w1 w'):=gp λw1=>by
  have X:=iK w1;refine Ad func125 ntmps125 rfl rfl (cS (C1 Mv (C1 V7 (C1 Pa (cT ?_)))));refine As ?_;refine AG (ι:=Unit) (λ_=>[(2,.int .i64 0),(6,.int .i64 1)]) (λ_ w'=>Ext w1 w') (λ_=>0) () sB X ?_;rintro _ U X;refine Aj (cS (C1 Mv (C1 Mv (C1 V3 (cT (Lb (BF (Av (Av (AO (Bi rfl ?_)))))))))));exact ⟨rfl,X⟩
 have V:Hid (∀(k:Int) w1,Calls prog 91 #[.slice a 0 c,.int .i64 0,.int .i64 0,.int .i64 k] w1 λe w'=>e = .returned (.tuple #[])/\Ext w1 w'):=gp λk w1=>by
  have X:=iK w1;refine Ad func91 ntmps91 rfl rfl (cS (C1 Pa (cN (C1 Pa (cT ?_)))));refine As ?_;refine AG (ι:=Unit) (λ_=>[(0,.slice a 0 c),(1,.int .i64 0),(2,.int .i64 0),(3,.int .i64 k)]) (λ_ w'=>Ext w1 w') (λ_=>0) () sB X ?_;rintro _ U X;refine eK ?_;refine C1 (AK rfl rfl (gz _ Ab)) (kC (O.out _) ?_);rintro _ Y ⟨⟨⟩,G⟩;have X:=X.ext G;refine eK ?_;refine EF rfl ?_;exact ⟨rfl,X⟩
 have X:=iK w;clear O;refine Ad func62 ntmps62 rfl rfl (eK ?_);refine C1 (Fj Ac rfl rfl rfl (Jb _ Ab Ab)) (Ax (AR AT rfl (Ip 0 Ab _) (λ_ _ ⟨_,h⟩=>⟨_,h.1⟩)) rfl ?_ aFh);rintro _ Z ⟨aa,⟨⟩,M⟩;have X:=X.ext M;refine cC rfl (V.out _ _) ?_;rintro _ ab ⟨⟨⟩,N⟩;have X:=X.ext N;refine Ak (Bi rfl ?_);exact ⟨rfl,X⟩
set_option maxHeartbeats 8000000 in
def XJ (gf:Nat) (lb:lV) (eg:BT prog gf=true) (Rt:nP) (M Fin:List Bv->Prop) (hN:∀p,M p->p.length<=1000000) (hF:∀p,Fin p->p.length<=12) (T:List Bv) (N:∀p,Fin p->Ft G0 p=T) (w:wD) (V:∀k,Rt k->k<w.heap.size) (Y:∀w1,Ext w w1->Jn prog gf lb Rc Rt M Fin w1) :
 Calls prog 33 #[.func (.func gf) #[] lb.toArray] w (NamR T w):=by
 have X:=iK w;have HA:=gp (λw1 (x:Ext w w1)=>Vj gf lb eg Rt M Fin hN w1 (λk hk=>by have:=V k hk;have:=x.size;omega) (λw2 x2=>Y w2 (x.trans x2)));have HF:=gp hF;have HT:=gp N;clear Y hN V hF N;refine Ad func33 ntmps33 rfl rfl (kQ (HA.out _ Af) ?_);rintro _ w7 ⟨a1,c2,O,⟨⟩,h4,h5,x6⟩;have X:=X.ext x6;refine C1 Pa (cT ?_);have ab:=HF.out _ h4;have N:=HT.out _ h4;have Z:=h5.namAt;clear HF HT h4 h5 HA;by_cases hx:O=[]
 . subst hx;have ac:T=[]:=by rw [<-N];rfl
   subst ac;refine kC (ZE _ _ _) ?_;rintro _ ae ⟨⟨⟩,ad⟩;have X:=X.ext ad;refine kR ?_;exact ⟨_,_,rfl,gq rfl,X⟩
 . obtain ⟨g,rfl,⟨af,ag⟩,hA⟩:=Z.resolve_left hx;have G:=NW G0 O;have aa:=List.length_pos_iff.2 hx;rw [N] at G;have HS:=gp (λw1 h=>bZ g c2 O ⟨aa,ab⟩ w1 h);rw [N] at HS;clear Z N hx;refine kC (HS.out _ Af) ?_;rintro _ ah ⟨⟨⟩,ai,U⟩;have aj:=U.size;have X:=iY X U (λk hk=>by omega);clear hA U;refine kR ?_;exact ⟨_,_,by rw [G],gt ⟨g,rfl,⟨Ab,Ab⟩,Af⟩,X⟩
def JM (lt:Bv->Bv->Bool):∀(L:List AtV) (o:List Bv),(L.foldl (λo a=>if a.s∈o then o else Jz lt a.s o) o).length<=o.length+L.length
 | [],o=>by simp
 | a::L,o=>by
  rw [List.foldl_cons];have h:∀(x:Bv) (l:List Bv),(Jz lt x l).length=l.length+1:=λx l=>by
   induction l with
   | nil=>rfl
   | cons y r G=>unfold Jz;split<;>simp [G]
  split
  . have:=JM lt L o;simp only [gD];omega
  . have:=JM lt L (Jz lt a.s o);rw [h] at this;simp only [gD];omega
def Kn:∀(L:List AtV) (o:List Bv),(L.foldl (λo a=>if a.s∈o then o else o++[a.s]) o).length<=o.length+L.length
 | [],o=>by simp
 | a::L,o=>by
  rw [List.foldl_cons];split
  . have:=Kn L o;simp only [gD];omega
  . have:=Kn L (o++[a.s]);simp only [gO,gD,hH] at this ⊢;omega
def SC (L:List AtV):(Bj L).length<=L.length:=by have:=Kn L [];simpa [Bj] using this
set_option maxHeartbeats 8000000 in
def I4 (M X:nP) (Z:Nat) (es:List EX) (L:List AtV) (hL:L.length<=12) (w:wD) (hb:BkAt M X w Z es L) :
 Calls prog 18 #[.pointer (some ⟨Z,0,none⟩)] w (NamR (Ek G0 L) w):=by
 have O:=iK w;obtain ⟨ea,ec,r,h1,-,-,⟨bf,g1,-,-,-⟩,-,-⟩:=hb;have hk:((Bj L).map λs=>(s,Value.map (some (bf s)))).map (·.1)=Bj L:=by simp [Function.comp_def]
 have HK:=gp (λw1 h=>bW r _ w1 (show MapB w1 r ((Bj L).map λs=>(s,.map (some (bf s)))) from h));rw [hk] at HK;have HS:Hid (∀(G:Nat) (w1:wD),G<w1.heap.size->r<w1.heap.size->(Jn prog 63 [.pointer (some ⟨G,0,none⟩)] Rc (λk=>k=r\/k=G) (XH (Bj L)) (·.Perm (Bj L)) w1) ->
  Calls prog 33 #[.func (.func 63) #[] #[.pointer (some ⟨G,0,none⟩)]] w1 (NamR (Ek G0 L) w1)):=gp λG w1 aa hr U=>by
  have ab:=SC L;refine XJ _ [_] AT (λk=>k=r\/k=G) (XH (Bj L)) (·.Perm (Bj L)) (λp ⟨S,hS,N⟩=>?_) (λp N=>?_) (Ek G0 L) (λp N=>?_) w1 (λk hk=>by omega) (λw2 x2=>?_)
  . have h1:=N.length_le;have h2:=hS.length_eq;omega
  . have h2:=N.length_eq;omega
  . exact Ny nlt_tot L (N.nodup_iff.2 (JA L)) (λz=>N.mem_iff)
  . exact λy J Jx W hK=>U y J Jx W ((Keeps.of_ext x2).trans hK)
 refine Ad func18 ntmps18 rfl rfl (eK ?_);refine C1 (Ee Ac rfl rfl) (kQ (HK.out _ Af) ?_);rintro _ w7 ⟨ac,⟨⟩,h2,h3,h4,h5,x6⟩;have O:=O.ext x6;refine eQ rfl (HS.out _ _ Ab Ab Af) ?_;rintro _ ad ⟨a9,ae,⟨⟩,V,Y⟩;have O:=O.ext Y;refine kR ?_;exact ⟨_,_,rfl,V.imp id λ⟨g,q1,q2,q3⟩=>⟨g,q1,⟨Ab,Ab⟩,q3⟩,O⟩
set_option maxHeartbeats 8000000 in
def Ko (M X:nP) (bb:Nat) (es:List EX) (he:es.length<=1000) (hp:∀e∈es,0<=e.points/\e.points<=1000) (L:List AtV) (hL:L.length<=12) (w:wD) (Z:BkAt M X w bb es L) :
 Calls prog 19 #[.pointer (some ⟨bb,0,none⟩)] w (NamR (Ek (MX L (Ir es)) L) w):=by
 have N:=iK w;have HS:=gp (λw1 h=>I4 M X bb es L hL w1 h);have aa:(Ek G0 L).length<=12:=by have:=JM G0 L [];simp only [hH] at this;unfold Ek;omega
 obtain ⟨ab,ac⟩:=Fe nlt_tot L [] List.Pairwise.nil;have ad:(Ek G0 L).Nodup:=Ed nlt_tot ab;have G:∀z,z∈Ek G0 L↔z∈Bj L:=λz=>(ac z).trans (((Fu L [] List.nodup_nil).2 z).symm)
 have U:=Ny (OE L (Ir es)) L ad G;have O:=NW (MX L (Ir es)) (Ek G0 L);rw [U] at O;have ae:∀k,X k\/M k->k<w.heap.size:=by
  obtain ⟨ea,ec,r,-,-,-,-,h5,h6⟩:=Z;exact λk hk=>hk.elim (λh=>(h5 k h).2) (h6 k)
 have HF:=gp (λbx g cap hn hg w1 h1 h2 h3=>SA M X bb es he hp L Ab bx g cap (Ek G0 L) (λx Y=>(G x).1 Y) hn hg w1 h1 h2 h3);rw [U] at HF;have af:Ek G0 L=[]->Ek (MX L (Ir es)) L=[]:=λh=>by rw [h] at O;exact List.eq_nil_of_length_eq_zero O
 clear ab ac ad G U hp;generalize Ek (MX L (Ir es)) L=T at *;generalize Ek G0 L=xs at *;refine Ad func19 ntmps19 rfl rfl (cS (eB [_] ?_));intro b1 w2 h4 x5 p6 z7;revert Z N;refine eE x5 ?_;intro Z N;refine eK ?_;refine C1 (Ee Ac rfl rfl) (kQ (HS.out _ Af) ?_);rintro _ al ⟨a8,c9,⟨⟩,ag,ah⟩;revert h4 Z N;refine eE ah ?_;intro h4 Z N;refine C1 Pa (cT ?_);by_cases Y:xs=[]
 . subst Y;have ai:=af rfl;subst ai;clear HF HS;refine eK ?_;refine C1 (BW rfl) (cC rfl (Rb _ _ _ _) ?_);rintro _ am ⟨⟨⟩,aj⟩;have N:=N.ext aj;refine kR ?_;exact ⟨_,_,rfl,gq rfl,N⟩
 . obtain ⟨g,rfl,⟨an,ao⟩,hA⟩:=ag.resolve_left Y;have ak:=gp (HF.out b1 g c9 ⟨List.length_pos_iff.2 Y,aa⟩ ⟨λh=>by have:=ae g (gq h);omega,λh=>by have:=ae g (gt h);omega,Ab⟩);clear HF HS ag Y af;refine eK ?_;refine C1 (BW rfl) (cC rfl (ak.out _ Af Af Af) ?_);rintro _ ap ⟨⟨⟩,aq,V⟩;have ar:=V.size;have N:=iY N V (λk hk=>by omega);clear hA V;refine kR ?_;exact ⟨_,_,by rw [O],gt ⟨g,rfl,⟨Ab,Ab⟩,Af⟩,N⟩
def OU {g o:Nat} {vs:lV} {v:Value} (h:Row w ⟨g,o,none⟩ vs) (G:vs[j]? = some v):Row w ⟨g,o+j*1,none⟩ [v]:=by
 have k:=h.sub j 1;rw [show (vs.drop j).take 1=[v] from by
  rw [List.take_one,List.head?_drop,G];rfl] at k
 rwa [Nat.mul_one]
def Kq (k:Int) (w:wD):Calls prog 12 #[.int .u8 k] w (PgC (pG k) w):=by
 have X:=iK w;refine Ad func12 ntmps12 rfl rfl (cS (eA [_,_,_,_,_,_] ?_));intro b1 w2 N x6 p7 z8;have X:=X.ext x6;refine eK ?_;refine C1 (xB [_,_,_,_]) (C1 (xB [_,_,_,_]) (Ax (xS [_,_,_,_,_,_,_,_]) rfl ?_ aFh));rintro _ ai ⟨b9,rfl,O,aj⟩;have h:=O.blk;have ab:=O.ext;have ak:=O.pos;have al:=O.size;revert N X;refine eE ab ?_;intro N X;refine C1 (xB [_,_,_,_]) (xA [_,_,_,_] ?_);intro am an ac;refine eI [_,_,_,_] ac ?_;intro ao Y ad ap aq;revert h N X;refine eE ad ?_;intro h N X;refine cN (C1 (xB [_,_,_]) (Ax (xS [_,_,_]) rfl ?_ aFh));rintro _ ar ⟨Z,rfl,U,t28⟩;have M:=U.blk;have ae:=U.ext;have au:=U.pos;have av:=U.size;revert Y h N X;refine eE ae ?_;intro Y h N X;refine A3 [_,_,_,_] Ac rfl rfl rfl Y rfl rfl rfl (Ax (xS [_,_,_,_]) rfl ?_ aFh);rintro _ aw ⟨aa,rfl,V,ax⟩;have G:=V.blk;have af:=V.ext;have ay:=V.pos;have az:=V.size;revert M h N X;refine eE af ?_;intro M h N X;refine C1 (xB [_,_,_,_]) (C1 (xB [_,_,_,_,_,_]) (eS [_,_,_,_,_,_] N ?_));intro a0 ag ah a1;revert G M h X;refine eF ah ?_;intro G M h X;refine kX ag ?_;refine ⟨some ⟨Z,0,none⟩,1,none,0,some ⟨aa,0,none⟩,1,rfl,⟨gt ⟨Z,0,rfl,⟨Ab,Ab⟩,?_⟩,gq rfl,?_⟩,gq rfl,gI _,X⟩
 . intro i v hi;rcases i with - | i
   . cases hi;exact M.row
   . cases i<;>cases hi
 . exact ⟨aa,0,some ⟨b9,0,none⟩,2,rfl,⟨Ab,Ab⟩,G.cell (i:=0) rfl,G.cell (i:=1) rfl,G.cell (i:=2) rfl,G.cell (i:=3) rfl,
    ⟨b9,0,none,0,rfl,⟨Ab,Ab⟩,h.cell (i:=0) rfl,h.cell (i:=1) rfl,h.cell (i:=2) rfl,h.cell (i:=3) rfl,trivial,
     b9,4,none,0,rfl,⟨Ab,Ab⟩,h.cell (i:=4) rfl,h.cell (i:=5) rfl,h.cell (i:=6) rfl,h.cell (i:=7) rfl,trivial,trivial⟩,trivial⟩
def Vk (xs ys:List Bv) (hx:xs.length<=1000000) (S S':nP) (a a':oA) (c c':Nat) (w:wD) (V:Rows S w (xs.map str) a) (Y:Rows S' w (ys.map str) a') :
 Calls prog 29 #[.slice a xs.length c,.slice a' ys.length c'] w λe w'=>e = .returned (.bool (decide (xs=ys)))/\Ext w w':=by
 have X:=iK w;rcases Decidable.em (xs.length=ys.length) with hn|hn
 case inr=>
  rw [decide_eq_false (λe=>hn (by rw [e]))];refine Ad func29 ntmps29 rfl rfl (kR ?_);exact ⟨rfl,X⟩
 refine Ad func29 ntmps29 rfl rfl (cS (C1 Pa (cT (Aj (cS (C1 Mv (C1 Pz (C1 Mv (C1 Pz (C1 V2 (cT (C6 (Ao (Ai (Aj (cS (C1 Pa (cT ?_))))))))))))))))));refine As ?_;refine AG (ι:=Nat) (λj=>[(0,.slice a xs.length c),(1,.slice a' ys.length c'),(5,.int .i64 j)])
  (λj w'=>j<=xs.length/\xs.take j=ys.take j/\Rows S w' (xs.map str) a/\Rows S' w' (ys.map str) a'/\Ext w w') (λj=>xs.length-j) 0 sB ⟨gC _,rfl,V,Y,X⟩ ?_
 clear V Y X;rintro j w1 ⟨hj,ht,V,Y,X⟩;by_cases U:j<xs.length
 . have G:j<ys.length:=by omega
   rcases V with h|⟨g,o,rfl,s1,r1⟩
   . rw [List.map_eq_nil_iff] at h;rw [h] at U;simp at U
   rcases Y with h|⟨g',o',rfl,s2,r2⟩
   . rw [List.map_eq_nil_iff] at h;rw [h] at G;simp at G
   have rx:Row w1 ⟨g,o+j*1,none⟩ [str xs[j]]:=OU r1 (by rw [gV,gm U];rfl);have ry:Row w1 ⟨g',o'+j*1,none⟩ [str ys[j]]:=OU r2 (by rw [gV,gm G];rfl);have Z:xs[j]=ys[j]->xs.take (j+1)=ys.take (j+1):=λh=>by rw [gx U,gx G,ht,h]
   have af:xs[j]≠ys[j]->xs≠ys:=λh e=>h (by subst e;rfl)
   have V:Rows S w1 (xs.map str) (some ⟨g,o,none⟩):=gt ⟨g,o,rfl,s1,r1⟩;have Y:Rows S' w1 (ys.map str) (some ⟨g',o',none⟩):=gt ⟨g',o',rfl,s2,r2⟩;generalize xs[j]=x at *;generalize ys[j]=y at *;by_cases ac:x=y
   . subst ac;refine eK ?_;refine Aq (λM=>Ext w1 M) 8 (.pure 0 (.pure 1 (.pure 2 (.pure 3 (.pure 4 (.pure 5 (.pure 6 (.pure 7 .tail)))))))) mixed AT (Aa (Ae (Aa (Aa (Ae (Aa Ag)))))) ?_;intro ag ad _;have aa:(λM=>Ext w1 M) ag:=ad;simp only at aa;have N:=rx;have O:=ry;revert X V Y;refine eE ad ?_;intro X V Y;refine ⟨aa,?_⟩;refine eT ?_;refine Tq rfl (Ap Ac rfl rfl rfl (λM hz=>iT (iO N hz) rfl)) (eT ?_);refine Tq rfl (Ap Ac rfl rfl rfl (λM hz=>iT (iO O hz) rfl)) (At rfl (C1 V9 (cT (M6 rfl (not_not_intro rfl) (Ao (Ah (Ai (Al (C1 Mv (C1 V7 (C1 Pa (Ak ?_))))))))))));exact Aw (j+1) sB ⟨Ab,Z rfl,V,Y,X⟩ Ab
   . rw [decide_eq_false (af ac)];clear Z;refine eK ?_;refine Aq (λM=>Ext w1 M) 8 (.pure 0 (.pure 1 (.pure 2 (.pure 3 (.pure 4 (.pure 5 (.pure 6 (.pure 7 .tail)))))))) mixed AT (Aa (Ae (Aa (Aa (Ae (Aa Ag)))))) ?_;intro ah ae _;have ab:(λM=>Ext w1 M) ah:=ae;simp only at ab;have N:=rx;have O:=ry;have X:=X.ext ae;refine ⟨ab,?_⟩;refine eT ?_;refine Tq rfl (Ap Ac rfl rfl rfl (λM hz=>iT (iO N hz) rfl)) (eT ?_);refine Tq rfl (Ap Ac rfl rfl rfl (λM hz=>iT (iO O hz) rfl)) (At rfl (kR ?_));exact ⟨rfl,X⟩
 . obtain rfl:j=xs.length:=by omega
   rw [gF,hn,gF] at ht;rw [decide_eq_true ht];refine kR ?_;exact ⟨rfl,X⟩
def NamAt.rows (h:NamAt S w xs a):Rows S w (xs.map str) a:=by
 rcases h with rfl|⟨g,rfl,M,t,N⟩
 . exact gq rfl
 . refine gt ⟨g,0,rfl,M,λi v G=>N.row i v ?_⟩;rw [gJ (List.getElem?_eq_some_iff.1 G).1,G]
def XK (G:0<=k) (M:k<=255):(pG k).wf:=by
 refine ⟨by simp [pG],by simp [pG],?_,by simp [pG],?_⟩
 . intro v h;simp only [pG,ia] at h;subst h;exact ⟨AN,AN,AN,AN,AN⟩
 . simp [pG,Nd.wf,CJ,G,M]
def XL:e50.wf:=⟨by simp [e50],XK Ab Ab,by simp [e50,pG]⟩
def dZ:E8 [e50]=0:=by
 unfold E8;rw [AB AN,AQ (by simp [Kk]),AQ AN]
def NewY (l:List EX) (w:wD):Ending->wD->Prop:=λe w'=> ∃bb M X,e = .returned (.tuple #[.pointer (some ⟨bb,0,none⟩),.int .i64 0])/\BkAt M X w' bb l []/\(∀k,X k\/M k->w.heap.size<=k)/\Ext w w'
def NewY.ret {l:List EX} (h:NewY l w e w'):∃v,e = .returned v:=by
 obtain ⟨_,_,_,h,-⟩:=h;exact ⟨_,h⟩
def Rd (l:List EX) (N:∀e∈l,e.wf) (O:l.length<=1000000) (G:E8 l=0) (S:nP) (a:oA) (c:Nat) (w:wD) (U:EXs S w l a) :
 Calls prog 13 #[.slice a l.length c] w (NewY l w):=by
 refine ir (WG l N O S a c w U) ?_;rintro e w' ⟨p,k,rfl,rfl,X,⟨-,h⟩|⟨-,V,M,Y,rfl,Z,h2⟩⟩
 . exact absurd G h
 . exact ⟨V,M,Y,by rw [G],Z,h2,X⟩
def BkAt.ltM {X:nP} {L:List AtV} (h:BkAt S X w G es L):∀k,S k->k<w.heap.size:=by
 obtain ⟨_,_,_,-,-,-,-,-,h⟩:=h;exact h
def Sub5 (M X:nP) (bb:Nat) (L':List AtV) (q:Bool) (w:wD):Ending->wD->Prop:=λe w'=> ∃tr a x c ta tx tc oa ox oc er,e = .returned (.tuple #[.agg #[.bool q,.int .i64 tr,.slice a x c,.slice ta tx tc,.slice oa ox oc,.int .i64 er],.int .i64 0]) /\
 ∃M':nP,BkAt M' X w' bb [e50] L'/\(∀k,M' k->(M k\/w.heap.size<=k)/\k<w'.heap.size)/\Fr M w w'
def Sub5.ret {X:nP} {N:List AtV} {q:Bool} (h:Sub5 S X G N q w e w'):∃v,e = .returned v:=by
 obtain ⟨_,_,_,_,_,_,_,_,_,_,_,h,-⟩:=h;exact ⟨_,h⟩
def SD (L Z:List AtV) (hL:L.length<=100) (s:Bv) (aa:s.length<=100) (hq:Cj s=true) (k:Int) (h0:0<=k) (h1:k<=255) (q:Bool) (hg:(BU e50 (pG k)).1.ok=q) (hv:Bz [e50] L s [105,110,99] (pG k)=(((BU e50 (pG k)).1,0),Z)) (M X:nP) (G:Nat) (S:nP) (O:oA) (vc:Nat) (N:oA) (pc:Nat) (U:oA) (mc:Nat) (w:wD)
 (hb:BkAt M X w G [e50] L) (hs:(pG k).sits S w O N U) (V:PDsC S w (pG k).procs N) (Y:(pG k).vars.length<=vc) :
 Calls prog 14 #[.pointer (some ⟨G,0,none⟩),str s,str [105,110,99],.agg ((pG k).cells O vc N pc U mc).toArray] w (Sub5 M X G Z q w):=by
 have h:=Q7 M X G [e50] CH L Ab s [105,110,99] Ab hq e50 0 AT rfl XL CH (pG k) (XK h0 h1) (by simp [pG]) S O vc N pc U mc w hb hs V Y;rw [hv] at h;refine ir h ?_;rintro e w' ⟨a,c,ta,tc,oa,oc,rfl,-,-,M',-,k2,k3,k4⟩;refine ⟨(BU e50 (pG k)).1.tried,a,(BU e50 (pG k)).1.st.cells.length,c,ta,(BU e50 (pG k)).1.st.tin.length,tc,oa,(BU e50 (pG k)).1.st.tout.length,oc,(BU e50 (pG k)).1.err,by rw [<-hg],M',k3,λk hk=>⟨(k2 k hk).imp id And.left,BkAt.ltM k3 k hk⟩,k4⟩
def XM {b:Nat} {x:Bv} (h:Blk w b [str x,str n]):Rows (λ_=>True) w ([x,n].map str) (some ⟨b,0,none⟩):=gt ⟨b,0,rfl,trivial,h.row⟩
def ZF {b:Nat} {e:EX} {h M:oA} {vc N:Nat} (V:Blk w b (e.cells a vc h N M j)) (X:e.g.sits S w a h M) (Y:PDsC S w e.g.procs h) (Z:e.g.vars.length<=vc):EXs (λ_=>True) w [e] (some ⟨b,0,none⟩):=by
 refine gt ⟨b,0,rfl,trivial,λi x U=>?_⟩;rcases i with - | i
 . cases U;rw [Nat.zero_mul,iu];exact ⟨a,vc,h,N,M,j,V.row,X.wide λ_ _=>trivial,Y.wide λ_ _=>trivial,Z⟩
 . cases i<;>cases U
set_option maxHeartbeats 8000000 in
def Gt (w:wD):Calls prog 11 #[] w λe w'=>e = .returned (.bool true)/\Ext w w':=by
 have U:=iK w;have ap:=gp (λw1=>Kq 40 w1);have aq:=gp (λw1=>Kq 41 w1);have HN:=gp (λS a c w1 h=>Rd [e50] (λe he=>by rw [ia] at he;rw [he];exact XL) CH dZ S a c w1 h);have aw:=gp (λM X bb S va vc pa pc ma mc w1=>SD [] (L50.take 1) CH [97,110,110] CH AT 40 CH CH false go40.2 fF M X bb S va vc pa pc ma mc w1);have ax:=gp (λM X bb S va vc pa pc ma mc w1=>SD (L50.take 1) (L50.take 2) CH [97,110,110] CH AT 41 CH CH true go41.2 fG M X bb S va vc pa pc ma mc w1);have ay:=gp (λM X bb S va vc pa pc ma mc w1=>SD (L50.take 2) L50 CH [98,111,98] CH AT 41 CH CH true go41.2 fH M X bb S va vc pa pc ma mc w1);refine Ad func11 ntmps11 rfl rfl (eK ?_);refine C1 (xB [_,_,_]) (eQ rfl (ap.out _) ?_);rintro _ d9 ⟨ea,eb,ec,ed,ee,ef,⟨⟩,h7,h8,h9,az⟩;have eg:=az.size;have U:=U.ext az;refine C1 (xB [_,_,_,_,_,_,_,_,_,_,_,_]) (Ax (xS [_,_,_,_,_,_,_,_,_,_,_,_]) rfl ?_ aFh);rintro _ eh ⟨ei,rfl,af,ej⟩;have ar:=af.blk;have bh:=af.ext;have ek:=af.pos;have el:=af.size;revert h7 h8 U;refine eE bh ?_;intro h7 h8 U;refine eQ rfl (HN.out _ _ _ _ (ZF (e:=e50) Af Af Af Af)) ?_;rintro _ em ⟨Y,en,eo,⟨⟩,a0,ag,bi⟩;revert ar h7 h8 U;refine eY bi ?_;intro z28 ar h7 h8 U;refine eK ?_
 clear ar h7 h8 HN h9;have a1:=ag;have aj:=U.size;refine eK ?_;refine C1 (Ee Ac rfl rfl) (kQ (ap.out _) ?_);rintro _ cf ⟨cg,ch,ci,cj,ck,cl,⟨⟩,ep,eq,bj,a2⟩;revert a0 U;refine eY a2 ?_;intro cm a0 U;refine eQ rfl (aw.out _ _ _ _ _ _ _ _ _ _ _ Af Af Af Af) ?_;rintro _ cn ⟨bk,co,cp,cq,bl,bm,bn,bo,bp,bq,br,⟨⟩,au,Z,ak,al⟩;have cr:=al.size;have U:=iY U al (λk hk=>by have:=ag k (gt hk);omega);refine eK ?_;refine xA [_,_,_,_,_,_] ?_;intro am ct a3;refine eI [_,_,_,_,_,_] a3 ?_;intro cu G a4 cv cw;revert Z U;refine eE a4 ?_;intro Z U;refine C1 Pa (cT ?_);have ah:∀k,au k->w.heap.size<=k/\k≠am:=λk hk=>by
  obtain ⟨k1|k1,k2⟩:=ak k hk
  . have:=ag k (gt k1);omega
  . omega
 clear a1 ag ak bj aw ap;have aj:=U.size;refine kQ (aq.out _) ?_;rintro _ cx ⟨cy,cz,c0,c1,c2,c3,⟨⟩,er,et,bs,a5⟩;revert G Z U;refine eY a5 ?_;intro c4 G Z U;refine eQ rfl (ax.out _ _ _ _ _ _ _ _ _ _ _ Af Af Af Af) ?_;rintro _ c5 ⟨bt,c6,c7,c8,bu,bv,bw,bx,bz,b0,b1,⟨⟩,av,aa,an,ae⟩;have c9:=ae.size;have G:=iN G ae (λe=>(ah _ e).2 rfl);have U:=iY U ae (λk hk=>(ah k hk).1);refine eK ?_;refine xA [_,_,_,_,_,_] ?_;intro a6 da a7;refine eI [_,_,_,_,_,_] a7 ?_;intro db N a8 dc dd;revert aa G U;refine eE a8 ?_;intro aa G U;refine C1 Pa (cT ?_);have ai:∀k,av k->w.heap.size<=k/\k≠am/\k≠a6:=λk hk=>by
  obtain ⟨k1|k1,k2⟩:=an k hk
  . have:=ah k k1;omega
  . omega
 clear ah an bs ax;have aj:=U.size;refine kQ (aq.out _) ?_;rintro _ de ⟨df,dg,dh,di,dk,dl,⟨⟩,eu,ew,b2,a9⟩;revert N aa G U;refine eY a9 ?_;intro dm N aa G U;refine eQ rfl (ay.out _ _ _ _ _ _ _ _ _ _ _ Af Af Af Af) ?_;rintro _ dn ⟨b3,dp,dq,dr,b4,b5,b6,b7,b8,b9,ca,⟨⟩,cb,O,ba,ab⟩;have ds:=ab.size;have N:=iN N ab (λe=>(ai _ e).2.2 rfl);have G:=iN G ab (λe=>(ai _ e).2.1 rfl);have U:=iY U ab (λk hk=>(ai k hk).1);refine eK ?_;refine xA [_,_,_,_,_,_] ?_;intro dt du bc;refine eI [_,_,_,_,_,_] bc ?_;intro dv V bd dw dx;revert O N G U;refine eE bd ?_;intro O N G U;refine C1 Pa (cT ?_);clear ai ba b2 ay aq;have hp:∀e∈[e50],0<=e.points/\e.points<=1000:=λe he=>by rw [ia] at he;rw [he];decide
 have HA:=gp (λM X w1 h=>GT M X Y [e50] L50 [97,110,110] [105,110,99] w1 h);have HP:=gp (λM X w1 h=>Fw M X Y [e50] CH hp L50 [97,110,110] w1 h);have HQ:=gp (λM X w1 h=>Fw M X Y [e50] CH hp L50 [98,111,98] w1 h);have HR:=gp (λM X w1 h=>Ko M X Y [e50] CH hp L50 CH w1 h);have HS:=gp (λS S' a a' c c' w1 h1 h2=>Vk [[98,111,98],[97,110,110]] [[98,111,98],[97,110,110]] CH S S' a a' c c' w1 h1 h2);rw [decide_eq_true rfl] at HS;rw [pts50.2.2.1] at HA;rw [pts50.1] at HP;rw [pts50.2.1] at HQ;rw [pts50.2.2.2] at HR
 focus
  refine kC (HP.out _ _ _ Af) ?_;rintro _ ex ⟨⟨⟩,cc⟩;revert V O N G U;refine eY cc ?_;intro ey V O N G U;refine kC (HQ.out _ _ _ Af) ?_;rintro _ ez ⟨⟨⟩,cd⟩;revert V O N G U;refine eY cd ?_;intro e0 V O N G U;refine kC (HA.out _ _ _ Af) ?_;rintro _ e1 ⟨⟨⟩,ce⟩;revert V O N G U;refine eY ce ?_;intro e2 V O N G U;refine kQ (HR.out _ _ _ Af) ?_;rintro _ dy ⟨dz,d0,⟨⟩,ac,be⟩;revert V O N G U;refine eY be ?_;intro d1 V O N G U;refine G2 (Ax (xS [_,_]) rfl ?_ aFh);rintro _ d2 ⟨d3,rfl,ad,d4⟩;have ao:=ad.blk;have bf:=ad.ext;have d5:=ad.pos;have d6:=ad.size;revert ac V O N G U;refine eE bf ?_;intro ac V O N G U;refine G2 (cC rfl (HS.out _ _ _ _ _ _ _ (NamAt.rows Af) (XM Af)) ?_);rintro _ d7 ⟨⟨⟩,bg⟩;revert ao ac V O N G U;refine eY bg ?_;intro d8 ao ac V O N G U;refine kR ?_;rotate_left
 exact ⟨rfl,U⟩
def DF:nP:=λ_=>True
def NX (W:wD) (b o:Nat):∀(len G:Nat),(∀i,i<len -> ∃(t:Nd) (M:oA) (N:Nat),t.wf/\W.cell? ⟨b,o+(G+i)*4,none⟩=some (.int .u8 t.kind)/\W.cell? ⟨b,o+(G+i)*4+1,none⟩=some (.int .i64 t.num)/\W.cell? ⟨b,o+(G+i)*4+2,none⟩=some (str t.name)/\W.cell? ⟨b,o+(G+i)*4+3,none⟩=some (.slice M t.kids.length N)/\t.sits DF W M) ->
 ∃l:List Nd,l.length=len/\CJ l/\rowSits DF W l (some ⟨b,o+G*4,none⟩)
 | 0,_,_=>⟨[],rfl,by simp [CJ],by simp [rowSits]⟩
 | len+1,G,h=>by
  obtain ⟨l,hl,hw,hs⟩:=NX W b o len (G+1) (λi hi=>by
   have:=h (i+1) Ab;rwa [show G+(i+1)=G+1+i from by omega] at this)
  obtain ⟨t,M,N,O,V,X,Y,Z,U⟩:=h 0 Ab;rw [Nat.add_zero] at V X Y Z;refine ⟨t::l,by simp [hl],by simp [CJ,O,hw],?_⟩;simp only [rowSits];refine ⟨b,o+G*4,M,N,rfl,trivial,V,X,Y,Z,U,?_⟩;rwa [show o+G*4+4=o+(G+1)*4 from by omega]
def cB {a:Addr} (h:w.cells? 0 a 4=some cs):∃G M N O,cs=[G,M,N,O]/\w.cell? (a.add 0)=some G/\w.cell? (a.add 1)=some M/\w.cell? (a.add 2)=some N/\w.cell? (a.add 3)=some O:=by
 unfold World.cells? at h;rw [AQ (gC _)] at h;rw [show it 4=[0,1,2,3] from rfl] at h;cases e0:w.cell? (a.add 0)<;>simp [e0] at h
 cases e1:w.cell? (a.add 1)<;>simp [e1] at h
 cases e2:w.cell? (a.add 2)<;>simp [e2] at h
 cases e3:w.cell? (a.add 3)<;>simp [e3] at h
 exact ⟨_,_,_,_,h.symm,rfl,rfl,rfl,rfl⟩
def Vl (b o n m:Nat):((⟨b,o,none⟩:Addr).add n).add m=⟨b,o+n+m,none⟩:=by
 unfold iC;by_cases h:n=0<;>by_cases G:m=0<;>simp [h,G]
def Iq:prog.cellsOf 29=4:=by kernel_rfl
def XN:prog.cellsOf 5=1:=by kernel_rfl
def XO:prog.cellsOf 3=1:=by kernel_rfl
def SE:prog.cellsOf 9=1:=by kernel_rfl
def ZG:prog.cellsOf 27=1:=by kernel_rfl
def JN (enc:TypeId×Value->H) (W:wD) (sp:Nat->Bool) (N:Nat):∀(M:Nat),M<N -> ∀(cs:lV) (x:DataW H×List MemPlace),ic enc prog W 0 sp true M 29 cs=some x ->
 ∃(t:Nd) (a:oA) (c:Nat),cs=[.int .u8 t.kind,.int .i64 t.num,str t.name,.slice a t.kids.length c]/\t.wf/\t.sits DF W a:=by
 induction N with
 | zero=>intro M h;omega
 | succ N ih=>
  intro M hN cs x h;obtain ⟨xs,n,rfl,-,hl,ad,hf⟩:=DataW.trod_struct underlying29 h;rw [Iq] at hl;obtain ⟨Z,c1,c2,c3,rfl⟩:∃Z c1 c2 c3,cs=[Z,c1,c2,c3]:=by
   rcases cs with _|⟨Z,_|⟨c1,_|⟨c2,_|⟨c3,_|⟨c4,cs⟩⟩⟩⟩⟩
   . simp at hl
   . simp at hl
   . simp at hl
   . simp at hl
   . exact ⟨_,_,_,_,rfl⟩
   . simp at hl
  obtain ⟨y0,y1,y2,y3,rfl⟩:∃y0 y1 y2 y3,xs=[y0,y1,y2,y3]:=by
   have G:xs.length=4:=ad;rcases xs with _|⟨Z,_|⟨c1,_|⟨c2,_|⟨c3,_|⟨c4,cs⟩⟩⟩⟩⟩
   . simp at G
   . simp at G
   . simp at G
   . simp at G
   . exact ⟨_,_,_,_,rfl⟩
   . simp at G
  . have f0:ic enc prog W 0 sp true n 5 (([Z,c1,c2,c3].drop 0).take (prog.cellsOf 5))=some y0:=hf 0 _ rfl;have f1:ic enc prog W 0 sp true n 3 (([Z,c1,c2,c3].drop 1).take (prog.cellsOf 3))=some y1:=hf 1 _ rfl;have f2:ic enc prog W 0 sp true n 9 (([Z,c1,c2,c3].drop 2).take (prog.cellsOf 9))=some y2:=hf 2 _ rfl;have f3:ic enc prog W 0 sp true n 27 (([Z,c1,c2,c3].drop 3).take (prog.cellsOf 27))=some y3:=hf 3 _ rfl;simp only [XN,XO,SE,ZG,List.drop_zero,List.drop_succ_cons,List.take_succ_cons,List.take_zero] at f0 f1 f2 f3;obtain ⟨k,hk,-,wk⟩:=DataW.trod_int (show prog.underlying 5=some (.int .u8) by kernel_rfl) f0;obtain ⟨m,hm,-,wm⟩:=DataW.trod_int underlying3 f1;obtain ⟨s,hs,-,ws⟩:=DataW.trod_string (show prog.underlying 9=some .string by kernel_rfl) f2;simp only [ig,and_true] at hk hm hs;subst hk hm hs;have O:0<=k/\k<=255:=by simpa [Lit.wf,IntKind.min,IntKind.max,IntKind.signed,IntKind.bits] using wk
    have U : -9223372036854775808<=m/\m<=9223372036854775807:=by simpa [Lit.wf,IntKind.min,IntKind.max,IntKind.signed,IntKind.bits] using wm
    have ab:s.data.toList.length<=9223372036854775807:=by
     have:s.data.toList.length=s.size:=by rw [Array.length_toList];rfl
     unfold maxLen at ws;omega
    rcases DataW.trod_slice underlying27 f3 with ⟨hc,-⟩|⟨a,len,cap,V,rest,n',ak,hc,-,-,al,ag,am,hE,-⟩
    . simp only [ig,and_true] at hc;subst hc;exact ⟨.mk k m s.data.toList [],none,0,rfl,⟨O.1,O.2,U.1,U.2,ab,AN,by simp [CJ]⟩,by simp [jk,rowSits]⟩
    . simp only [ig,and_true] at hc;subst hc;rw [Iq] at hE;rcases Nat.eq_zero_or_pos len with h0|ae
      . subst h0;exact ⟨.mk k m s.data.toList [],some a,cap,rfl,⟨O.1,O.2,U.1,U.2,ab,AN,by simp [CJ]⟩,by simp [jk,rowSits]⟩
      . have step:∀i,i<len -> ∃(t:Nd) (a':oA) (c':Nat),t.wf/\W.cell? ((a.add (i*4)).add 0)=some (.int .u8 t.kind)/\W.cell? ((a.add (i*4)).add 1)=some (.int .i64 t.num)/\W.cell? ((a.add (i*4)).add 2)=some (str t.name)/\W.cell? ((a.add (i*4)).add 3)=some (.slice a' t.kids.length c')/\t.sits DF W a':=by
         intro i hi;have X:=hE i hi;cases hc4:W.cells? 0 (a.add (i*4)) 4 with
         | none=>
          rw [hc4] at X;have hh:V[i]? = some V[i]:=gm Ab;rw [hh] at X;simp at X
         | some an=>
          rw [hc4,gm Ab] at X;obtain ⟨d0,d1,d2,d3,rfl,Y,e1,e2,e3⟩:=cB hc4;obtain ⟨t,a',c',af,hw,hs⟩:=ih n' Ab _ _ X;simp only [ig,and_true] at af;obtain ⟨rfl,rfl,rfl,rfl⟩:=af;exact ⟨t,a',c',hw,Y,e1,e2,e3,hs⟩
        obtain ⟨b,o,aa⟩:=a;have ac:aa=none:=by
         obtain ⟨t,a',c',-,Y,-⟩:=step 0 ae;simp only [Nat.zero_mul,iC,if_true] at Y;unfold World.cell? at Y;cases aa with
         | none=>rfl
         | some q=>simp at Y;split at Y<;>simp at Y
        subst ac;obtain ⟨l,ah,ai,aj⟩:=NX W b o len 0 (λi hi=>by
         obtain ⟨t,a',c',hw,Y,e1,e2,e3,hs⟩:=step i hi;rw [Vl] at Y e1 e2 e3;rw [iu];exact ⟨t,a',c',hw,Y,e1,e2,e3,hs⟩)
        subst ah;refine ⟨.mk k m s.data.toList l,some ⟨b,o,none⟩,cap,rfl,⟨O.1,O.2,U.1,U.2,ab,by unfold maxLen at ag;omega,ai⟩,?_⟩;simpa [jk] using aj
def Vm {p:Addr} {k:Nat} (h:w.cells? 0 p k=some cs):Row w p cs/\cs.length=k:=by
 unfold World.cells? at h;rw [AQ (gC _)] at h;refine ⟨λi v G=>?_,by simpa using mapM_some_length h⟩;have O:cs.length=k:=by simpa using mapM_some_length h
 have M:i<k:=by
  rcases gK i cs.length with N|N
  . omega
  . rw [gG N] at G;cases G
 have:=mapM_some_get h i i (by simp [M]);rw [G] at this;exact this
def XP (b o i:Nat):(⟨b,o,none⟩:Addr).add i=⟨b,o+i,none⟩:=by unfold iC;by_cases h:i=0<;>simp [h]
def K1 {α:Type} (enc:TypeId×Value->H) (W:wD) (sp:Nat->Bool) {t e k:Nat} (ht:prog.underlying t=some (.slice e)) (hk:prog.cellsOf e=k) (ac:0<k) (G:lV->α->Prop) {N:Nat} (hG:∀(n:Nat) (cs:lV) (x:DataW H×List MemPlace),n<N->ic enc prog W 0 sp true n e cs=some x -> ∃y,G cs y) {x:DataW H×List MemPlace} (h:ic enc prog W 0 sp true N t [c]=some x) :
 ∃(l:List α) (a:oA) (cap:Nat),c = .slice a l.length cap/\l.length<=9223372036854775807/\Arr DF k (λw b o y=> ∃cs,Row w ⟨b,o,none⟩ cs/\G cs y) W l a:=by
 rcases DataW.trod_slice ht h with ⟨V,-⟩|⟨a,len,cap,aa,rest,n',ad,V,-,-,ae,ab,af,hE,-⟩
 . simp only [ig,and_true] at V;exact ⟨[],none,0,V,AN,gq rfl⟩
 . simp only [ig,and_true] at V;rw [hk] at hE;unfold maxLen at ab;rcases Nat.eq_zero_or_pos len with h0|X
   . subst h0;exact ⟨[],some a,cap,V,AN,gq rfl⟩
   . have step:∀i,i<len -> ∃y cs,Row W (a.add (i*k)) cs/\cs.length=k/\G cs y:=λi hi=>by
      have M:=hE i hi;cases hc4:W.cells? 0 (a.add (i*k)) k with
      | none=>
       rw [hc4,gm Ab] at M;simp at M
      | some cs=>
       rw [hc4,gm Ab] at M;obtain ⟨r1,r2⟩:=Vm hc4;obtain ⟨y,hy⟩:=hG n' cs _ Ab M;exact ⟨y,cs,r1,r2,hy⟩
     obtain ⟨b,o,Y⟩:=a;have O:Y=none:=by
      obtain ⟨y,cs,r,hl,-⟩:=step 0 X;simp only [Nat.zero_mul,iC,if_true] at r;cases cs with
      | nil=>simp at hl;omega
      | cons v vs=>
       have:=r 0 v rfl;simp only [iC,if_true] at this;exact TO this
     subst O;have hl:∃l:List α,l.length=len /\ ∀i y,l[i]? = some y -> ∃cs,Row W ⟨b,o+i*k,none⟩ cs/\G cs y:=by
      have key:∀m,m<=len -> ∃l:List α,l.length=m /\ ∀i y,l[i]? = some y -> ∃cs,Row W ⟨b,o+i*k,none⟩ cs/\G cs y:=by
       intro m
       induction m with
       | zero=>intro _;exact ⟨[],rfl,AN⟩
       | succ m ih=>
        intro hm;obtain ⟨l,Z,h2⟩:=ih Ab;obtain ⟨y,cs,r,-,hg⟩:=step m Ab;rw [XP] at r;refine ⟨l++[y],by simp [Z],λi z U=>?_⟩;rcases gK i m with hi|hi
        . rw [gJ Ab] at U;exact h2 i z U
        . rw [gU Ab] at U;obtain rfl:i=m:=by
           rcases gK m i with h'|h'
           . rw [gG (by simp;omega)] at U;cases U
           . omega
          simp [Z] at U;subst U;exact ⟨cs,r,hg⟩
      exact key len (gI _)
     obtain ⟨l,Z,h2⟩:=hl;subst Z;exact ⟨l,some ⟨b,o,none⟩,cap,V,Ab,gt ⟨b,o,rfl,trivial,h2⟩⟩
def fJ (h:cs.length=3):∃a b c,cs=[a,b,c]:=by
 rcases cs with _|⟨a,_|⟨b,_|⟨c,_|⟨d,r⟩⟩⟩⟩<;>simp at h;exact ⟨a,b,c,rfl⟩
def XQ (h:cs.length=6):∃a b c d e f,cs=[a,b,c,d,e,f]:=by
 rcases cs with _|⟨a,_|⟨b,_|⟨c,_|⟨d,_|⟨e,_|⟨f,_|⟨g,r⟩⟩⟩⟩⟩⟩⟩<;>simp at h;exact ⟨a,b,c,d,e,f,rfl⟩
def Br {α:Type} {xs:List α} {n i:Nat} (h:xs.length=n) (G:i<n):∃y,xs[i]? = some y:=⟨xs[i],gm Ab⟩
def fQ:prog.cellsOf 77=3:=by kernel_rfl
def eC:prog.cellsOf 25=1:=by kernel_rfl
def fR:prog.cellsOf 116=6:=by kernel_rfl
def fK:prog.cellsOf 26=1:=by kernel_rfl
def gg:prog.cellsOf 31=6:=by kernel_rfl
section
variable {H:Type} (enc:TypeId×Value->H) (W:wD) (sp:Nat->Bool)
def SF {x:DataW H×List MemPlace} (h:ic enc prog W 0 sp true M 77 cs=some x):∃v:VD,cs=v.cells/\v.wf:=by
 obtain ⟨xs,n,rfl,-,hl,G,U⟩:=DataW.trod_struct underlying77 h;rw [fQ] at hl;obtain ⟨V,X,Y,rfl⟩:=fJ hl;obtain ⟨y0,e0⟩:=Br (i:=0) G CH;obtain ⟨y1,e1⟩:=Br (i:=1) G CH;obtain ⟨y2,e2⟩:=Br (i:=2) G CH;have f0:ic enc prog W 0 sp true n 9 (([V,X,Y].drop 0).take (prog.cellsOf 9))=some y0:=(U 0 _ rfl).trans e0;have f1:ic enc prog W 0 sp true n 5 (([V,X,Y].drop 1).take (prog.cellsOf 5))=some y1:=(U 1 _ rfl).trans e1;have f2:ic enc prog W 0 sp true n 3 (([V,X,Y].drop 2).take (prog.cellsOf 3))=some y2:=(U 2 _ rfl).trans e2;simp only [XN,XO,SE,List.drop_zero,List.drop_succ_cons,List.take_succ_cons,List.take_zero] at f0 f1 f2;obtain ⟨s,hs,-,ws⟩:=DataW.trod_string DO f0;obtain ⟨k,hk,-,wk⟩:=DataW.trod_int (show prog.underlying 5=some (.int .u8) by kernel_rfl) f1;obtain ⟨m,hm,-,wm⟩:=DataW.trod_int underlying3 f2;simp only [ig,and_true] at hk hm hs;subst hk hm hs;have N:0<=k/\k<=255:=by simpa [Lit.wf,IntKind.min,IntKind.max,IntKind.signed,IntKind.bits] using wk
 have O : -9223372036854775808<=m/\m<=9223372036854775807:=by simpa [Lit.wf,IntKind.min,IntKind.max,IntKind.signed,IntKind.bits] using wm
 have Z:s.data.toList.length<=9223372036854775807:=by
  have:s.data.toList.length=s.size:=by rw [Array.length_toList];rfl
  unfold maxLen at ws;omega
 exact ⟨⟨s.data.toList,k,m⟩,rfl,Z,N.1,N.2,O.1,O.2⟩
end
def GY {α:Type} (enc:TypeId×Value->H) (W:wD) (sp:Nat->Bool) {t e k:Nat} (X:prog.underlying t=some (.slice e)) (Z:prog.cellsOf e=k) (O:0<k) (G:lV->α->Prop) (hG:∀(n:Nat) (cs:lV) (x:DataW H×List MemPlace),n<M->ic enc prog W 0 sp true n e cs=some x -> ∃y,G cs y) {x:DataW H×List MemPlace} (h:ic enc prog W 0 sp true M t [c]=some x) :
 ∃(l:List α) (a:oA) (cap:Nat),c = .slice a l.length cap/\l.length<=9223372036854775807/\Arr DF k (λw b o y=> ∃cs,Row w ⟨b,o,none⟩ cs/\G cs y) W l a/\l.length<=cap:=by
 obtain ⟨l,a,cap,U,h2,h3⟩:=K1 enc W sp X Z O G hG h;refine ⟨l,a,cap,U,h2,h3,?_⟩;rcases DataW.trod_slice X h with ⟨N,-⟩|⟨a',len,Y,V,rest,n',aa,N,-,-,ab,-⟩
 . simp only [ig,and_true] at N;rw [U] at N;simp only [gR] at N;omega
 . simp only [ig,and_true] at N;rw [U] at N;simp only [gR] at N;omega
section
variable {H:Type} (enc:TypeId×Value->H) (W:wD) (sp:Nat->Bool)
def JO {x:DataW H×List MemPlace} (h:ic enc prog W 0 sp true G 25 [c]=some x) :
 ∃(l:List VD) (a:oA) (cap:Nat),c = .slice a l.length cap/\l.length<=9223372036854775807/\(∀v∈l,v.wf)/\VDs DF W l a/\l.length<=cap:=by
 obtain ⟨l,a,cap,O,U,M,V⟩:=GY (α:=VD) enc W sp underlying25 fQ CH (λcs v=>cs=v.cells/\v.wf) (λn cs x _ X=>SF enc W sp X) h;refine ⟨l,a,cap,O,U,λv N=>?_,M.mono aFh (λb o v _ _ ⟨cs,r,e,_⟩=>by subst e;exact r),V⟩;rcases M with rfl|⟨b,o,-,-,Y⟩
 . cases N
 . obtain ⟨i,Z,rfl⟩:=List.mem_iff_getElem.1 N;obtain ⟨cs,-,-,hw⟩:=Y i _ (gm Z);exact hw
def Re {x:DataW H×List MemPlace} (h:ic enc prog W 0 sp true M 116 cs=some x):∃p:PD,(∃U V X Y,cs=p.cells U V X Y/\VDs DF W p.params U/\p.body.sits DF W X/\p.params.length<=V)/\p.wf:=by
 obtain ⟨xs,n,rfl,-,hl,G,Z⟩:=DataW.trod_struct underlying116 h;rw [fR] at hl;obtain ⟨c0,c1,c2,c3,c4,c5,rfl⟩:=XQ hl;obtain ⟨y0,e0⟩:=Br (i:=0) G CH;obtain ⟨y1,e1⟩:=Br (i:=1) G CH;obtain ⟨y2,e2⟩:=Br (i:=2) G CH;have f0:ic enc prog W 0 sp true n 9 (([c0,c1,c2,c3,c4,c5].drop 0).take (prog.cellsOf 9))=some y0:=(Z 0 _ rfl).trans e0;have f1:ic enc prog W 0 sp true n 25 (([c0,c1,c2,c3,c4,c5].drop 1).take (prog.cellsOf 25))=some y1:=(Z 1 _ rfl).trans e1;have f2:ic enc prog W 0 sp true n 29 (([c0,c1,c2,c3,c4,c5].drop 2).take (prog.cellsOf 29))=some y2:=(Z 2 _ rfl).trans e2;simp only [eC,SE,Iq,List.drop_zero,List.drop_succ_cons,List.take_succ_cons,List.take_zero] at f0 f1 f2;obtain ⟨s,hs,-,ws⟩:=DataW.trod_string DO f0;obtain ⟨l,U,V,hc,aa,ab,ac,ad⟩:=JO enc W sp f1;obtain ⟨t,X,Y,N,hw,O⟩:=JN enc W sp (n+1) n Ab _ _ f2;simp only [ig,and_true] at hs N;obtain ⟨rfl,rfl,rfl,rfl⟩:=N;subst hs hc;have ae:s.data.toList.length<=9223372036854775807:=by
  have:s.data.toList.length=s.size:=by rw [Array.length_toList];rfl
  unfold maxLen at ws;omega
 exact ⟨⟨s.data.toList,l,t⟩,⟨U,V,X,Y,rfl,ac,O,ad⟩,ae,aa,ab,hw⟩
def pg_of_trodR {x:DataW H×List MemPlace} (h:ic enc prog W 0 sp true j 31 cs=some x):∃(g:PG) (va:oA) (vc:Nat) (G:oA) (N:Nat) (ma:oA) (mc:Nat),cs=g.cells va vc G N ma mc/\g.wf/\g.sits DF W va G ma/\PDsC DF W g.procs G/\g.vars.length<=vc:=by
 obtain ⟨xs,n,rfl,-,hl,M,hf⟩:=DataW.trod_struct underlying31 h;rw [gg] at hl;obtain ⟨c0,c1,c2,c3,c4,c5,rfl⟩:=XQ hl;obtain ⟨y0,e0⟩:=Br (i:=0) M CH;obtain ⟨y1,e1⟩:=Br (i:=1) M CH;obtain ⟨y2,e2⟩:=Br (i:=2) M CH;have f0:ic enc prog W 0 sp true n 25 (([c0,c1,c2,c3,c4,c5].drop 0).take (prog.cellsOf 25))=some y0:=(hf 0 _ rfl).trans e0;have f1:ic enc prog W 0 sp true n 26 (([c0,c1,c2,c3,c4,c5].drop 1).take (prog.cellsOf 26))=some y1:=(hf 1 _ rfl).trans e1;have f2:ic enc prog W 0 sp true n 29 (([c0,c1,c2,c3,c4,c5].drop 2).take (prog.cellsOf 29))=some y2:=(hf 2 _ rfl).trans e2;simp only [eC,fK,Iq,List.drop_zero,List.drop_succ_cons,List.take_succ_cons,List.take_zero] at f0 f1 f2;obtain ⟨l,va,vc,hc,ab,ac,ad,ae⟩:=JO enc W sp f0;obtain ⟨ps,G,N,hp,af,V⟩:=K1 (α:=PD) enc W sp underlying26 fR CH (λcs p=>(∃G N O X,cs=p.cells G N O X/\VDs DF W p.params G/\p.body.sits DF W O/\p.params.length<=N)/\p.wf) (λn cs x _ hx=>Re enc W sp hx) f1;obtain ⟨t,O,X,Y,hw,Z⟩:=JN enc W sp (n+1) n Ab _ _ f2;simp only [ig,and_true] at Y;obtain ⟨rfl,rfl,rfl,rfl⟩:=Y;subst hc hp;have aa:PDsC DF W ps G:=V.mono aFh (λb o p _ _ ⟨cs,r,⟨G,N,O,X,e,h1,h2,h3⟩,_⟩=>by
  subst e;exact ⟨G,N,O,X,r,h1,h2,h3⟩)
 refine ⟨⟨l,ps,t⟩,va,vc,G,N,O,X,rfl,⟨ab,af,ac,λp hp=>?_,hw⟩,⟨ad,aa.pds,Z⟩,aa,ae⟩;rcases V with rfl|⟨b,o,-,-,hh⟩
 . cases hp
 . obtain ⟨i,hi,rfl⟩:=List.mem_iff_getElem.1 hp;obtain ⟨cs,-,-,hw⟩:=hh i _ (gm hi);exact hw
end
def Rf (N:Nat):∀(t:Nd) (S:nP) (a:oA) (c:Nat) (w:wD),t.size<N->t.wf->t.sits S w a ->
 Calls prog 55 #[t.val a c] w λe w'=> ∃n:Int,e = .returned (.int .i64 n)/\Ext w w':=by
 induction N with
 | zero=>intro t S a c w h;omega
 | succ N ih=>
  rintro ⟨k,n,s,l⟩ S a c w hN hM G;have IH:=gp ih;clear ih;simp only [jk] at G;simp only [Nd.size] at hN;obtain ⟨-,-,-,-,-,hl,U⟩:=hM;have X:=iK w;refine Ad func55 ntmps55 rfl rfl (cS (eB [_,_,_,_] ?_));intro b1 w2 h4 x5 _ _;revert G X;refine eE x5 ?_;intro G X;refine eK ?_;refine AG (ι:=Nat×Int) (λx=>[(9,.int .i64 x.1),(8,.int .i64 l.length),(7,.slice a l.length c),(3,.int .i64 x.2)]) (λx w'=>rowSits S w' l a/\Ext w w'/\x.1<=l.length) (λx=>l.length-x.1) (0,1) sB ⟨G,X,gC _⟩ ?_;clear h4 G X;rintro ⟨j,q⟩ w1 ⟨G,X,hj⟩;simp only at hj;by_cases M:j<l.length
  . obtain ⟨kb,ko,rfl,ad,O⟩:=BI G (by intro e;subst e;simp at M);obtain ⟨xa,xc,rx,sx⟩:=O j l[j] (gm M);have ae:=D6 (gA M);have Y:=BK U _ (gA M);clear O U;generalize l[j]=x at *;refine eK ?_;refine xA [_,_,_,_] ?_;intro af ag Z;refine eI [_,_,_,_] Z ?_;intro ah ai aa _ _;revert X G sx;refine eE aa ?_;intro X G sx;refine eK ?_;refine Ax (AR AT rfl (IH.out _ S _ _ _ Ab Y Af) (λ_ _ ⟨_,h⟩=>⟨_,h.1⟩)) rfl ?_ aFh;rintro _ ac ⟨ab,⟨⟩,V⟩;revert X G;refine eE V ?_;intro X G;refine C1 (Je (a:=q) rfl rfl) (eK ?_);exact Aw (j+1,Lp (q+ab)) sB ⟨G,X,M⟩ (by simp only;omega)
  . have:j=l.length:=by omega
    subst this;refine kR ?_;exact ⟨_,rfl,X⟩
def Q01 (p:Prop) (w:wD):Ending->wD->Prop:=λe w'=> ∃q:Int,e = .returned (.int .i64 q)/\(q=0\/q=1/\p)/\Ext w w'
def Q01.ret {p:Prop} (h:Q01 p w e w'):∃v,e = .returned v:=by
 obtain ⟨_,h,-⟩:=h;exact ⟨_,h⟩
def TF (p:PG) (Z:p.wf) (S:nP) (va:oA) (vc:Nat) (O:oA) (pc:Nat) (U:oA) (mc:Nat) (w:wD) (hs:p.sits S w va O U) :
 Calls prog 27 #[.agg (p.cells va vc O pc U mc).toArray] w (Q01 (p.vars.length<=4) w):=by
 have X:=iK w;have hm:=hs.main;have M:=hs.procs.ltA;have V:=Z.main;have aa:=gp Z.procs;have af:=Z.np;clear hs Z;obtain ⟨pv,G,pm⟩:=p;simp only at *;have HM:=gp (λw1 h=>Rf (pm.size+1) pm S U mc w1 Ab V h);clear V;obtain ⟨mk,mn,ms,ml⟩:=pm;have HZ:=gp (λ(b:PD) (hb:b∈G) (S:nP) a c w1 h=>Rf (b.body.size+1) b.body S a c w1 Ab (aa.out b hb).body h);change Calls prog _ #[.agg #[.slice va pv.length vc,.slice O G.length pc,.int .u8 mk,.int .i64 mn,str ms,.slice U ml.length mc]] w _;refine Ad func27 ntmps27 rfl rfl ?_
 focus
  refine cS (eB [_,_,_,_,_,_] ?_);intro b1 w2 N x5 _ _;revert X M hm;refine eE x5 ?_;intro X M hm;refine eK ?_;refine BY rfl rfl rfl (λc8=>?_) (λc8=>?_);refine kR ?_;rotate_left;refine eK ?_;refine BY rfl rfl rfl (λc9=>?_) (λc9=>?_);refine kR ?_;rotate_left;refine eK ?_;refine Ax (AR AT rfl (HM.out _ Af) (λ_ _ ⟨_,h⟩=>⟨_,h.1⟩)) rfl ?_ aFh;rintro _ ag ⟨ah,⟨⟩,ab⟩;revert N X M;refine eE ab ?_;intro N X M;refine eK ?_;refine Ay rfl (λac=>?_) (λac=>?_);refine kR ?_;rotate_left;refine Ao (Ai (Aj (cS (C1 Pa (cT ?_)))));rotate_left
 all_goals try exact ⟨0,rfl,gq rfl,X⟩
 refine As ?_;refine AG (ι:=Nat) (λj=>[(1,.pointer (some ⟨b1,0,none⟩)),(3,.int .i64 j)])
  (λj w'=>j<=G.length/\Blk w' b1 [.slice va pv.length vc,.slice O G.length pc,.int .u8 mk,.int .i64 mn,str ms,.slice U ml.length mc]/\PDs (· < w.heap.size) w' G O/\Ext w w') (λj=>G.length-j) 0 sB ⟨gC _,N,M,X⟩ ?_
 clear N M X hm HM;rintro j w1 ⟨hj,N,M,X⟩;by_cases Y:j<G.length
 . obtain ⟨kb,ko,rfl,-,hk⟩:=i9 M Ab;obtain ⟨ai,aj,ak,al,rx,-,sx⟩:=hk j G[j] (gm Y);have HY:=gp (HZ.out G[j] (gA Y));clear hk HZ;generalize G[j]=x at *;obtain ⟨xn,am,bk,bn,bs,bl⟩:=x;unfold PD.cells at rx;simp only at *
   focus
    refine eK ?_;refine BO [_,_,_,_] Ac rfl rfl rfl rx rfl rfl rfl (Ax (AR AT rfl (HY.out _ _ _ _ Af) (λ_ _ ⟨_,h⟩=>⟨_,h.1⟩)) rfl ?_ aFh);rintro _ an ⟨ao,⟨⟩,ad⟩;revert X N M;refine eE ad ?_;intro X N M;refine eK ?_;refine Ay rfl (λae=>?_) (λae=>?_);refine kR ?_;rotate_left;refine Ao (Ah (Ai (Al (C1 Mv (C1 V7 (C1 Pa (Ak ?_)))))));rotate_left
   . exact ⟨0,rfl,gq rfl,X⟩
   . exact Aw (j+1) sB ⟨Ab,N,M,X⟩ Ab
 . obtain rfl:j=G.length:=by omega
   refine kR ?_;exact ⟨1,rfl,gt ⟨rfl,Ab⟩,X⟩
structure SB where
 stu:Bv
 name:Bv
 ans:PG
abbrev SB.cells (s:SB) (va:oA) (vc:Nat) (pa:oA) (pc:Nat) (ma:oA) (mc:Nat):lV:=[str s.stu,str s.name,.slice va s.ans.vars.length vc,.slice pa s.ans.procs.length pc,.int .u8 s.ans.main.kind,.int .i64 s.ans.main.num,str s.ans.main.name,.slice ma s.ans.main.kids.length mc]
structure SB.wf (s:SB):Prop where
 stu:s.stu.length<=9223372036854775807
 name:s.name.length<=9223372036854775807
 ans:s.ans.wf
structure SB.sits (S:nP) (w:wD) (s:SB) (va pa ma:oA) (vc:Nat):Prop where
 g:s.ans.sits S w va pa ma
 p:PDsC S w s.ans.procs pa
 room:s.ans.vars.length<=vc
def fL (S:nP) (w:wD) (b o:Nat) (s:SB):Prop:= ∃va vc pa pc ma mc,Row w ⟨b,o,none⟩ (s.cells va vc pa pc ma mc)/\s.sits S w va pa ma vc
def SBs (S:nP) (w:wD) (l:List SB) (a:oA):Prop:=Arr S 8 (fL S) w l a
def SB.sits.ext {S:nP} {w w':wD} {s:SB} {G M N:oA} {vc:Nat} (h:s.sits S w G M N vc) (x:Ext w w'):s.sits S w' G M N vc:=⟨h.g.ext x,h.p.ext x,h.room⟩
instance {s:SB} {M N:oA} {vc:Nat}:LfE w w' (s.sits S w a M N vc) (s.sits S w' a M N vc):=⟨λx h=>Bk.SB.sits.ext h x⟩
def SB.sits.fr {S T:nP} {w w':wD} {s:SB} {G M N:oA} {vc:Nat} (h:s.sits S w G M N vc) (x:Fr T w w') (O:∀b,S b -> ¬T b):s.sits S w' G M N vc:=⟨h.g.fr x O,h.p.fr x O,h.room⟩
instance {T:nP} {s:SB} {M N:oA} {vc:Nat}:LfF T w w' (s.sits S w a M N vc) (∀b,S b -> ¬T b) (s.sits S w' a M N vc):=⟨λx s h=>Bk.SB.sits.fr h x s⟩
def SBs.ext {S:nP} {w w':wD} {l:List SB} {a:oA} (h:SBs S w l a) (x:Ext w w'):SBs S w' l a:=
 h.mono aFh (λ_ _ _ _ _ ⟨G,vc,pa,pc,ma,mc,h1,h2⟩=>⟨G,vc,pa,pc,ma,mc,h1.ext x,h2.ext x⟩)
instance {l:List SB}:LfE w w' (SBs S w l a) (SBs S w' l a):=⟨λx h=>Bk.SBs.ext h x⟩
def SBs.fr {S T:nP} {w w':wD} {l:List SB} {a:oA} (h:SBs S w l a) (x:Fr T w w') (G:∀b,S b -> ¬T b):SBs S w' l a:=
 h.mono aFh (λb _ _ _ M ⟨N,vc,pa,pc,ma,mc,h1,h2⟩=>⟨N,vc,pa,pc,ma,mc,h1.fr x (G b M),h2.fr x G⟩)
instance {T:nP} {l:List SB}:LfF T w w' (SBs S w l a) (∀b,S b -> ¬T b) (SBs S w' l a):=⟨λx s h=>Bk.SBs.fr h x s⟩
def SBs.ltA {S:nP} {w:wD} {l:List SB} {a:oA} (h:SBs S w l a):SBs (· < w.heap.size) w l a:=by
 rcases h with h|⟨b,o,Z,h2,N⟩
 . exact gq h
 . cases l with
   | nil=>exact gq rfl
   | cons v r=>
    refine gt ⟨b,o,Z,?_,λi x hi=>?_⟩
    . obtain ⟨O,vc,U,V,X,Y,G,-⟩:=N 0 v rfl;exact Cg (iT G rfl)
    . obtain ⟨O,vc,U,V,X,Y,G,M⟩:=N i x hi;exact ⟨O,vc,U,V,X,Y,G,M.g.ltA,M.p.ltA,M.room⟩
def XR (es:List EX) (Y:es.length<=1000000) (s:Bv) (S:nP) (a:oA) (c:Nat) (w:wD) (M:EXs S w es a) :
 Calls prog 22 #[.slice a es.length c,str s] w λe w'=>e = .returned (.int .i64 (ER es s))/\Ext w w':=by
 have X:=iK w;have M:=M.ltA;refine Ad func22 ntmps22 rfl rfl (cS (C1 Pa (cT (Aj (cS (C1 Pa (cT ?_)))))));refine As ?_;refine AG (ι:=Nat) (λj=>[(0,.slice a es.length c),(1,str s),(5,.int .i64 j)])
  (λj w'=>j<=es.length/\EXs (· < w.heap.size) w' es a/\Ext w w'/\(es.take j).findIdx? (λp=>decide (p.name=s))=none)
  (λj=>es.length-j) 0 sB ⟨gC _,M,X,rfl⟩ ?_
 clear M X;rintro j w1 ⟨hj,M,X,G⟩;by_cases N:j<es.length
 . obtain ⟨kb,ko,rfl,-,Z⟩:=i9 M Ab;obtain ⟨va,vc,pa,pc,ma,mc,ry,-⟩:=Z j es[j] (gm N);have O:=F4 N G;have U:es[j].name=s->ER es s=j:=λh=>by
    rw [AQ (by simpa using h)] at O;rw [ER,Rs,F5 O]
   clear Z G;generalize es[j]=y at *;unfold jg at *
   focus
    refine eK ?_;refine Ay rfl (λV=>?_) (λV=>?_);refine kR ?_;rotate_left;refine Ao (Ah (Ai (Al (C1 Mv (C1 V7 (C1 Pa (Ak ?_)))))));rotate_left
   . exact ⟨by rw [U Af],X⟩
   . exact Aw (j+1) sB ⟨Ab,M,X,O.trans (AB (by simpa using Af))⟩ Ab
 . obtain rfl:j=es.length:=by omega
   rw [gF] at G;have Y:ER es s = -1:=by rw [ER,Rs,G]
   rw [Y];refine kR ?_;exact ⟨rfl,X⟩
def cD (l:List EX) (subs:List SB):Prop:=l.length<=4/\subs.length<=8/\(∀e∈l,e.g.vars.length<=4/\e.fuel<=400) /\ ∀s∈subs,s.ans.vars.length<=4
set_option maxHeartbeats 8000000 in
def OV (l:List EX) (G:List SB) (hl:∀e∈l,e.g.wf) (hb:∀s∈G,s.ans.wf) (S S':nP) (a a':oA) (c c':Nat) (w:wD) (N:EXs S w l a) (M:SBs S' w G a') :
 Calls prog 20 #[.slice a l.length c,.slice a' G.length c'] w (Q01 (cD l G) w):=by
 have X:=iK w;have N:=N.ltA;have M:=M.ltA;refine Ad func20 ntmps20 rfl rfl ?_
 focus
  refine eK ?_;refine BY rfl rfl rfl (λc1=>?_) (λc1=>?_);refine kR ?_;rotate_left;refine eK ?_;refine Ay rfl (λc2=>?_) (λc2=>?_);refine kR ?_;rotate_left;refine Ao (Ai (Aj (cS (C1 Pa (cT ?_)))));rotate_left
 all_goals try exact ⟨0,rfl,gq rfl,X⟩
 refine As ?_;refine AG (ι:=Nat) (λj=>[(0,.slice a l.length c),(1,.slice a' G.length c'),(5,.int .i64 j)])
  (λj w'=>j<=l.length/\(∀e∈l.take j,e.g.vars.length<=4/\e.fuel<=400)/\EXs (· < w.heap.size) w' l a/\SBs (· < w.heap.size) w' G a'/\Ext w w') (λj=>l.length-j) 0 sB ⟨gC _,AN,N,M,X⟩ ?_
 clear N M X;rintro j w1 ⟨hj,V,N,M,X⟩;by_cases O:j<l.length
 . obtain ⟨kb,ko,rfl,-,hk⟩:=i9 N Ab;obtain ⟨va,vc,pa,pc,ma,mc,rx,sx⟩:=hk j l[j] (gm O);have aa:l[j].g.vars.length<=4/\l[j].fuel<=400 -> ∀e∈l.take (j+1),e.g.vars.length<=4/\e.fuel<=400:=λh e Y=>by
    rw [gx O,List.mem_append,ia] at Y;rcases Y with Y|rfl
    . exact V e Y
    . exact h
   have sg:=sx.g;have ab:=hl _ (gA O);clear hk sx V;generalize l[j]=x at *;have HT:=gp (λS w1 h=>TF x.g ab S va vc pa pc ma mc w1 h);unfold jg at *
   focus
    refine eK ?_;refine xA [_,_,_,_,_,_,_,_,_,_,_,_] ?_;intro ap aq ak;refine eI [_,_,_,_,_,_,_,_,_,_,_,_] ak ?_;intro ar ac al _ _;revert M X N sg;refine eE al ?_;intro M X N sg;refine kQ (HT.out _ _ Af) ?_;rintro _ ao ⟨au,⟨⟩,ad,ae⟩;revert ac M X N;refine eE ae ?_;intro ac M X N;refine eK ?_;refine BY rfl rfl rfl (λZ=>?_) (λZ=>?_);refine kR ?_;rotate_left;refine eK ?_;refine BY rfl rfl rfl (λaf=>?_) (λaf=>?_);refine kR ?_;rotate_left;refine eK ?_;refine BY rfl rfl rfl (λag=>?_) (λag=>?_);refine kR ?_;rotate_left;refine eK ?_;refine BY rfl rfl rfl (λah=>?_) (λah=>?_);refine kR ?_;rotate_left;refine eK ?_;refine Ay rfl (λai=>?_) (λai=>?_);refine kR ?_;rotate_left;refine Ao (Ah (Ai (Al (C1 Mv (C1 V7 (C1 Pa (Ak ?_)))))));rotate_left
   all_goals try exact ⟨0,rfl,gq rfl,X⟩
   exact Aw (j+1) sB ⟨Ab,aa ⟨(ad.resolve_left Z).2,Ab⟩,N,M,X⟩ Ab
 . obtain rfl:j=l.length:=by omega
   rw [gF] at V;refine Aj (cS (C1 Mv (C1 Mv (C1 Pz (C1 V3 (cT (C6 (BF (Av (Av (AO (Ai (Aj (cS (C1 Pa (cT (As ?_)))))))))))))))));refine AG (ι:=Nat) (λj=>[(1,.slice a' G.length c'),(7,.int .i64 j)])
    (λj w'=>j<=G.length/\(∀e∈G.take j,e.ans.vars.length<=4)/\SBs (· < w.heap.size) w' G a'/\Ext w w') (λj=>G.length-j) 0 sB ⟨gC _,AN,M,X⟩ ?_
   clear N M X;rintro j w1 ⟨hj,U,N,X⟩;by_cases O:j<G.length
   . obtain ⟨kb,ko,rfl,-,hk⟩:=i9 N Ab;obtain ⟨va,vc,pa,pc,ma,mc,rx,sx⟩:=hk j G[j] (gm O);have aa:G[j].ans.vars.length<=4 -> ∀e∈G.take (j+1),e.ans.vars.length<=4:=λh e Y=>by
      rw [gx O,List.mem_append,ia] at Y;rcases Y with Y|rfl
      . exact U e Y
      . exact h
     have sg:=sx.g;have ab:=hb _ (gA O);clear hk sx U;generalize G[j]=x at *;have HT:=gp (λS w1 h=>TF x.ans ab S va vc pa pc ma mc w1 h);unfold SB.cells at *
     focus
      refine eK ?_;refine BO [_,_,_,_,_,_] Ac rfl rfl rfl rx rfl rfl rfl (eQ rfl (HT.out _ _ Af) ?_);rintro _ av ⟨aw,⟨⟩,am,an⟩;revert X N;refine eE an ?_;intro X N;refine eK ?_;refine Ay rfl (λaj=>?_) (λaj=>?_);refine kR ?_;rotate_left;refine Ao (Ah (Ai (Al (C1 Mv (C1 V7 (C1 Pa (Ak ?_)))))));rotate_left
     all_goals try exact ⟨0,rfl,gq rfl,X⟩
     exact Aw (j+1) sB ⟨Ab,aa (am.resolve_left aj).2,N,X⟩ Ab
   . obtain rfl:j=G.length:=by omega
     rw [gF] at U;refine kR ?_;exact ⟨1,rfl,gt ⟨rfl,Ab,Ab,V,U⟩,X⟩
section
variable {H:Type} (enc:TypeId×Value->H) (W:wD) (sp:Nat->Bool)
def TG:prog.cellsOf 3=1:=by kernel_rfl
def Rg:prog.cellsOf 9=1:=by kernel_rfl
def TH:prog.cellsOf 34=3:=by kernel_rfl
def XS:prog.cellsOf 31=6:=by kernel_rfl
def XT:prog.cellsOf 36=12:=by kernel_rfl
def cE (h:cs.length=3):∃a b c,cs=[a,b,c]:=by
 rcases cs with _|⟨a,_|⟨b,_|⟨c,_|⟨d,l⟩⟩⟩⟩<;>simp at h
 exact ⟨_,_,_,rfl⟩
def cF (h:cs.length=12):∃a b c d e f G M N O U f',cs=[a,b,c,d,e,f,G,M,N,O,U,f']:=by
 obtain ⟨a,b,c,d,e,f,V⟩:=XQ (cs:=cs.take 6) (by rw [ij];omega);obtain ⟨G,M,N,O,U,f',X⟩:=XQ (cs:=cs.drop 6) (by rw [List.length_drop];omega);refine ⟨a,b,c,d,e,f,G,M,N,O,U,f',?_⟩;rw [<-List.take_append_drop 6 cs,V,X];rfl
def Eg {x:DataW H×List MemPlace} (h:ic enc prog W 0 sp true G 3 [c]=some x):∃m:Int,c = .int .i64 m /\ -9223372036854775808<=m/\m<=9223372036854775807:=by
 obtain ⟨m,M,-,N⟩:=DataW.trod_int underlying3 h;simp only [ig,and_true] at M;exact ⟨m,M,by simpa [Lit.wf,IntKind.min,IntKind.max,IntKind.signed,IntKind.bits] using N⟩
def OW {x:DataW H×List MemPlace} (h:ic enc prog W 0 sp true M 34 cs=some x) :
 ∃b:BoxV,cs=[.int .i64 b.v,.int .i64 b.l,.int .i64 b.i]/\(-9223372036854775808<=b.v/\b.v<=9223372036854775807)/\(-9223372036854775808<=b.l/\b.l<=9223372036854775807) /\ -9223372036854775808<=b.i/\b.i<=9223372036854775807:=by
 obtain ⟨xs,n,rfl,-,Y,G,N⟩:=DataW.trod_struct underlying34 h;rw [TH] at Y;obtain ⟨O,U,V,rfl⟩:=cE Y;obtain ⟨y0,e0⟩:=Br (i:=0) G CH;obtain ⟨y1,e1⟩:=Br (i:=1) G CH;obtain ⟨y2,e2⟩:=Br (i:=2) G CH;have Z:ic enc prog W 0 sp true n 3 (([O,U,V].drop 0).take (prog.cellsOf 3))=some y0:=(N 0 _ rfl).trans e0;have f1:ic enc prog W 0 sp true n 3 (([O,U,V].drop 1).take (prog.cellsOf 3))=some y1:=(N 1 _ rfl).trans e1;have f2:ic enc prog W 0 sp true n 3 (([O,U,V].drop 2).take (prog.cellsOf 3))=some y2:=(N 2 _ rfl).trans e2;simp only [TG,List.drop_zero,List.drop_succ_cons,List.take_succ_cons,List.take_zero] at Z f1 f2;obtain ⟨v,rfl,hv⟩:=Eg enc W sp Z;obtain ⟨l,rfl,X⟩:=Eg enc W sp f1;obtain ⟨i,rfl,hi⟩:=Eg enc W sp f2;exact ⟨⟨v,l,i⟩,rfl,hv,X,hi⟩
def OX {x:DataW H×List MemPlace} (h:ic enc prog W 0 sp true M 36 cs=some x) :
 ∃(e:EX) (va:oA) (vc:Nat) (pa:oA) (pc:Nat) (ma:oA) (mc:Nat),cs=e.cells va vc pa pc ma mc/\(e.name.length<=9223372036854775807/\e.g.wf)/\e.sits DF W va pa ma vc:=by
 obtain ⟨xs,n,rfl,-,hl,G,N⟩:=DataW.trod_struct underlying36 h;rw [XT] at hl;obtain ⟨O,U,V,X,Y,Z,c6,c7,c8,c9,ca,cb,rfl⟩:=cF hl;obtain ⟨y0,e0⟩:=Br (i:=0) G CH;obtain ⟨y1,e1⟩:=Br (i:=1) G CH;obtain ⟨y2,e2⟩:=Br (i:=2) G CH;obtain ⟨y3,e3⟩:=Br (i:=3) G CH;obtain ⟨y4,e4⟩:=Br (i:=4) G CH;have f0:ic enc prog W 0 sp true n 9 (([O,U,V,X,Y,Z,c6,c7,c8,c9,ca,cb].drop 0).take (prog.cellsOf 9))=some y0:=(N 0 _ rfl).trans e0;have f1:ic enc prog W 0 sp true n 3 (([O,U,V,X,Y,Z,c6,c7,c8,c9,ca,cb].drop 1).take (prog.cellsOf 3))=some y1:=(N 1 _ rfl).trans e1;have f2:ic enc prog W 0 sp true n 3 (([O,U,V,X,Y,Z,c6,c7,c8,c9,ca,cb].drop 2).take (prog.cellsOf 3))=some y2:=(N 2 _ rfl).trans e2;have f3:ic enc prog W 0 sp true n 34 (([O,U,V,X,Y,Z,c6,c7,c8,c9,ca,cb].drop 3).take (prog.cellsOf 34))=some y3:=(N 3 _ rfl).trans e3;have f4:ic enc prog W 0 sp true n 31 (([O,U,V,X,Y,Z,c6,c7,c8,c9,ca,cb].drop 6).take (prog.cellsOf 31))=some y4:=(N 4 _ rfl).trans e4;simp only [TG,Rg,TH,XS,List.drop_zero,List.drop_succ_cons,List.take_succ_cons,List.take_zero] at f0 f1 f2 f3 f4;obtain ⟨s,hs,-,ws⟩:=DataW.trod_string DO f0;obtain ⟨po,rfl,hp⟩:=Eg enc W sp f1;obtain ⟨fu,rfl,hu⟩:=Eg enc W sp f2;obtain ⟨b,hb,af,ag,ah⟩:=OW enc W sp f3;obtain ⟨g,va,vc,pa,pc,ma,mc,hg,ab,aa,ac,ad⟩:=pg_of_trodR enc W sp f4;simp only [ig,and_true] at hs hb;obtain ⟨rfl,rfl,rfl⟩:=hb;subst hs
 unfold PG.cells at hg;simp only [ig,and_true] at hg;obtain ⟨rfl,rfl,rfl,rfl,rfl,rfl⟩:=hg;have ae:s.data.toList.length<=9223372036854775807:=by
  have:s.data.toList.length=s.size:=by rw [Array.length_toList];rfl
  unfold maxLen at ws;omega
 exact ⟨⟨s.data.toList,po,fu,b,g⟩,va,vc,pa,pc,ma,mc,rfl,⟨ae,ab⟩,aa,ac,ad⟩
def fS:prog.cellsOf 65=8:=by kernel_rfl
def fM (h:cs.length=8):∃a b c d e f G M,cs=[a,b,c,d,e,f,G,M]:=by
 rcases cs with _|⟨a,_|⟨b,cs⟩⟩<;>simp at h
 obtain ⟨c,d,e,f,g,i,rfl⟩:=XQ h;exact ⟨_,_,_,_,_,_,_,_,rfl⟩
def SG {x:DataW H×List MemPlace} (h:ic enc prog W 0 sp true M 65 cs=some x) :
 ∃(s:SB) (O:oA) (vc:Nat) (U:oA) (X:Nat) (V:oA) (Y:Nat),cs=s.cells O vc U X V Y/\s.wf/\s.sits DF W O U V vc:=by
 obtain ⟨xs,n,rfl,-,hl,G,Z⟩:=DataW.trod_struct underlying65 h;rw [fS] at hl;obtain ⟨c0,c1,c2,c3,c4,c5,c6,c7,rfl⟩:=fM hl;obtain ⟨y0,e0⟩:=Br (i:=0) G CH;obtain ⟨y1,e1⟩:=Br (i:=1) G CH;obtain ⟨y2,e2⟩:=Br (i:=2) G CH;have f0:ic enc prog W 0 sp true n 9 (([c0,c1,c2,c3,c4,c5,c6,c7].drop 0).take (prog.cellsOf 9))=some y0:=(Z 0 _ rfl).trans e0;have f1:ic enc prog W 0 sp true n 9 (([c0,c1,c2,c3,c4,c5,c6,c7].drop 1).take (prog.cellsOf 9))=some y1:=(Z 1 _ rfl).trans e1;have f2:ic enc prog W 0 sp true n 31 (([c0,c1,c2,c3,c4,c5,c6,c7].drop 2).take (prog.cellsOf 31))=some y2:=(Z 2 _ rfl).trans e2;simp only [Rg,XS,List.drop_zero,List.drop_succ_cons,List.take_succ_cons,List.take_zero] at f0 f1 f2;obtain ⟨s,hs,-,ws⟩:=DataW.trod_string DO f0;obtain ⟨t,ht,-,wt⟩:=DataW.trod_string DO f1;obtain ⟨g,O,vc,U,X,V,Y,hg,aa,N,ab,ac⟩:=pg_of_trodR enc W sp f2;simp only [ig,and_true] at hs ht;subst hs ht;unfold PG.cells at hg;simp only [ig,and_true] at hg;obtain ⟨rfl,rfl,rfl,rfl,rfl,rfl⟩:=hg;have ad:s.data.toList.length<=9223372036854775807:=by
  have:s.data.toList.length=s.size:=by rw [Array.length_toList];rfl
  unfold maxLen at ws;omega
 have ae:t.data.toList.length<=9223372036854775807:=by
  have:t.data.toList.length=t.size:=by rw [Array.length_toList];rfl
  unfold maxLen at wt;omega
 exact ⟨⟨s.data.toList,t.data.toList,g⟩,O,vc,U,X,V,Y,rfl,⟨ad,ae,aa⟩,N,ab,ac⟩
end
def M0 (enc:TypeId×Value->H) (W:wD) (sp:Nat->Bool) {x:DataW H×List MemPlace} (h:ic enc prog W 0 sp true G 23 [c]=some x) :
 ∃(l:List EX) (a:oA) (cap:Nat),c = .slice a l.length cap/\l.length<=9223372036854775807/\l.length<=cap/\(∀e∈l,e.name.length<=9223372036854775807/\e.g.wf)/\EXs DF W l a:=by
 obtain ⟨l,a,cap,Z,h2,X,h4⟩:=GY (α:=EX) enc W sp underlying23 XT CH (λcs e=> ∃M vc N U O V,cs=e.cells M vc N U O V/\(e.name.length<=9223372036854775807/\e.g.wf)/\e.sits DF W M N O vc) (λn cs x _ hx=>OX enc W sp hx) h;refine ⟨l,a,cap,Z,h2,h4,λe Y=>?_,X.mono aFh (λb o e _ _ ⟨cs,r,M,vc,N,U,O,V,k,_,s⟩=>by subst k;exact ⟨M,vc,N,U,O,V,r,s⟩)⟩;rcases X with rfl|⟨b,o,-,-,hh⟩
 . cases Y
 . obtain ⟨i,hi,rfl⟩:=List.mem_iff_getElem.1 Y;obtain ⟨cs,-,M,vc,N,U,O,V,-,k1,-⟩:=hh i _ (gm hi);exact k1
def OY (enc:TypeId×Value->H) (W:wD) (sp:Nat->Bool) {x:DataW H×List MemPlace} (h:ic enc prog W 0 sp true G 60 [c]=some x) :
 ∃(l:List SB) (a:oA) (cap:Nat),c = .slice a l.length cap/\l.length<=9223372036854775807/\l.length<=cap/\(∀s∈l,s.wf)/\SBs DF W l a:=by
 obtain ⟨l,a,cap,Z,h2,X,h4⟩:=GY (α:=SB) enc W sp underlying60 fS CH (λcs s=> ∃M vc N U O V,cs=s.cells M vc N U O V/\s.wf/\s.sits DF W M N O vc) (λn cs x _ hx=>SG enc W sp hx) h;refine ⟨l,a,cap,Z,h2,h4,λe Y=>?_,X.mono aFh (λb o e _ _ ⟨cs,r,M,vc,N,U,O,V,k,_,s⟩=>by subst k;exact ⟨M,vc,N,U,O,V,r,s⟩)⟩;rcases X with rfl|⟨b,o,-,-,hh⟩
 . cases Y
 . obtain ⟨i,hi,rfl⟩:=List.mem_iff_getElem.1 Y;obtain ⟨cs,-,M,vc,N,U,O,V,-,k1,-⟩:=hh i _ (gm hi);exact k1
def exs_of_trodZ (enc:TypeId×Value->H) (W:wD) {r:Reach} {N:Nat} {v:Value} {d:DataW H} {ps:List MemPlace} {sp:Nat->Bool} (G:Value.okWide prog W r N 23 v) (h:DataW.Trod enc prog W 0 sp true 23 v d ps) :
 ∃(l:List EX) (a:oA) (c:Nat),v = .slice a l.length c/\l.length<=9223372036854775807/\l.length<=c/\(∀e∈l,e.name.length<=9223372036854775807/\e.g.wf)/\EXs DF W l a:=by
 obtain ⟨a0,len,cap,rfl⟩:=Go.WideShapes.okWide_slice underlying23 G;obtain ⟨M,O⟩:=h;exact M0 enc W sp O
def sbs_of_trod (enc:TypeId×Value->H) (W:wD) {r:Reach} {N:Nat} {v:Value} {d:DataW H} {ps:List MemPlace} {sp:Nat->Bool} (G:Value.okWide prog W r N 60 v) (h:DataW.Trod enc prog W 0 sp true 60 v d ps) :
 ∃(l:List SB) (a:oA) (c:Nat),v = .slice a l.length c/\l.length<=9223372036854775807/\l.length<=c/\(∀s∈l,s.wf)/\SBs DF W l a:=by
 obtain ⟨a0,len,cap,rfl⟩:=Go.WideShapes.okWide_slice underlying60 G;obtain ⟨M,O⟩:=h;exact OY enc W sp O
def OwnL.exs5 {B e:Nat} {len cap:Nat} {xs:List EX} (h:OwnL E7 w B e (.slice a len cap) xs) (M:∀b,B<=b->S b):EXs S w xs a:=by
 by_cases N:xs=[]
 . exact gq N
 . obtain ⟨g,O,U,V,G⟩:=h.rows N;simp only [gR] at U;obtain ⟨rfl,-,-⟩:=U;refine gt ⟨g,0,rfl,M g V,λi x X=>?_⟩;obtain ⟨cs,Y,Z,vc,pa,pc,ma,mc,rfl,h2⟩:=G i x X;exact ⟨Z,vc,pa,pc,ma,mc,by simpa [E7] using Y,h2.wide (λb hb=>M b hb.1)⟩
def OwnL.cap5 {α:Type} {sh:Shape α} {B e:Nat} {len cap:Nat} {xs:List α} (h:OwnL sh w B e (.slice a len cap) xs):xs.length<=cap:=by
 obtain ⟨M,⟨-,N⟩,-⟩:=h.ex;rcases N with ⟨G,O⟩|⟨g,c,cur,G,-,-,U,-⟩
 . omega
 . simp only [gR] at G;omega
def ZH {P:Program} {n:Nat} {l:Sl} {S:wD->Prop} {tab:Tab} {t t' e ty sz len cap:Nat} {x:Operand} {bs:lB} {p:Addr} (T:TabOk P tab) (O:Az tab t=some (.slice e,sz)) (U:Az tab e=some (.int .u8,G)) (N:Az tab t'=some (.str,M))
 (V:ev l x=some (.slice (some p) len cap)) (X:len=bs.length) (Y:∀w,S w->Row w p (bs.map λc=>.int .u8 c.toNat)):Bh P n l S (.convert t t' x) ty (str bs):=by
 subst X;unfold Bh;intro Z w aa pos after g ha hS;have h:=run_convert_bytes_back w t t' e p cap bs (T _ _ _ O).under (T _ _ _ U).under (T _ _ _ N).under (λj hj=>Y w hS j _ (by rw [gV,gm hj];rfl));simp [execOp,ha.ev V,gE,h,gw,str]
def eG (i:Nat):Bv:=[97+UInt8.ofNat (i%26),97+UInt8.ofNat (i/26)]
def ZI:∀i<101,([97+((i%26:Nat):Int),97+((i/26:Nat):Int)]:List Int)=(eG i).map λc=>(c.toNat:Int):=of_decide_eq_true AT
def TI (i:Nat):Bv:=[101]++eG i
def Z3 (n:Int) (i:Nat):EX:=⟨TI i,1+n,1,⟨0,0,0⟩,pG 40⟩
def D4 (n:Int) (k:Nat):List EX:=(it k).map (Z3 n)
def D5 (n:Int) (k:Nat):(D4 n k).length=k:=by simp [D4]
def MP (n:Int) (k:Nat):D4 n (k+1)=D4 n k++[Z3 n k]:=by simp [D4,List.range_succ]
def XU:∀i<101,Cj (TI i)=true:=of_decide_eq_true AT
def Rh:((it 100).map TI).Nodup:=of_decide_eq_true AT
def XV:(pG 40).acc/\(pG 40).pinv.acc/\(FX (pG 40).vars ⟨0,0,0⟩).2=0/\(FX (pG 40).vars ⟨0,0,0⟩).1<=65536:=of_decide_eq_true AT
def Vn {n:Int} (G:0<=n) (M:n<=255) {i:Nat} (h:i<101):(Z3 n i).valid:=
 ⟨⟨XU i h,⟨by show 1<=1+n;omega,by show 1+n<=1000;omega⟩,by show (0:Int)<=1;omega,by show (1:Int)<=1000000;omega⟩,XV⟩
def fN {n:Int} (h:0<=n) (G:n<=255):E8 (D4 n 100)=0:=by
 unfold E8;rw [AB (by rw [D5];omega),AQ,AQ]
 . rw [D4,List.map_map];exact Rh
 . intro e M;obtain ⟨i,N,rfl⟩:=List.mem_map.1 M;exact Vn h G (by have:=List.mem_range.1 N;omega)
def eH (n:Int):E8 (D4 n 101)=5:=by
 unfold E8;rw [AQ (by rw [D5];omega)]
def Ri (n:Int) (k:Nat):∀e∈D4 n k,e.wf:=by
 intro e h;obtain ⟨i,G,rfl⟩:=List.mem_map.1 h;exact ⟨by simp [Z3,TI,eG],XK Ab Ab,by simp [Z3,pG]⟩
def ZJ {l:List EX} {x:EX} (h:EXs S w (l++[x]) a):EXs S w l a:=by
 rcases h with h|⟨b,o,M,N,O⟩
 . simp at h
 . exact gt ⟨b,o,M,N,λi y G=>O i y (by rw [gJ (List.getElem?_eq_some_iff.1 G).1];exact G)⟩
def TJ (l:List EX) (M:∀e∈l,e.wf) (N:l.length<=1000000) (G:E8 l=k) (O:k≠0) (S:nP) (a:oA) (c:Nat) (w:wD) (U:EXs S w l a) :
 Calls prog 13 #[.slice a l.length c] w λe w'=>e = .returned (.tuple #[.pointer none,.int .i64 k])/\Ext w w':=by
 refine ir (WG l M N S a c w U) ?_;rintro e w' ⟨p,V,rfl,rfl,X,⟨rfl,-⟩|⟨h,-⟩⟩
 . exact ⟨by rw [G],X⟩
 . exact absurd (G.symm.trans h) O
def Vo {b:Nat} {xs ys:lV} (h:Blk w b xs) (e:xs=ys):Row w ⟨b,0,none⟩ ys:=e▸h.row
set_option maxHeartbeats 8000000 in
def cG (n:Int) (h0:0<=n) (h1:n<=255) (w:wD) :
 Calls prog 3 #[.int .u8 n] w λe w'=>e = .returned (.bool true)/\Ext w w':=by
 have X:=iK w;refine Ad func3 ntmps3 rfl rfl (kC (Gt _) ?_);rintro _ w2 ⟨⟨⟩,x1⟩;have X:=X.ext x1;refine C1 Pt (cT (AY rfl (Ao (Ai (cS (C1 Pa (cT (Aj (cS (C1 Pa (cT ?_)))))))))));refine As ?_;refine AG (ι:=Nat×oA×Nat) (λx=>[(0,.int .u8 n),(3,.slice x.2.1 (D4 n x.1).length x.2.2),(4,.int .i64 x.1)])
  (λx w'=>x.1<=101/\OwnL E7 w' w.heap.size 36 (.slice x.2.1 (D4 n x.1).length x.2.2) (D4 n x.1)/\Ext w w')
  (λx=>101-x.1) (0,none,0) sB ⟨by simp only;omega,OwnL.nil,X⟩ ?_
 clear X;rintro ⟨j,a,cap⟩ w1 ⟨hj,G,X⟩;simp only at hj G;have hz:=X.size;refine jl (m:=[(0,.int .u8 n),(3,.slice a (D4 n j).length cap),(4,.int .i64 j)]) ?_ sB;by_cases aa:j<101
 . have ab:∀g,(gN a (D4 n j).length cap).ownBlock=some g->g<w1.heap.size:=λg h=>G.lt h
   have a7:=D5 n j;have hv:=congrArg (List.map (ii .u8)) (ZI j aa);rw [List.map_map] at hv;rw [show ((j%26:Nat):Int)=(j:Int)%26 from by omega,show ((j/26:Nat):Int)=(j:Int)/26 from by omega] at hv;simp only [im,List.map_nil] at hv;have a8:2=(eG j).length:=rfl;have ac:D4 n j++[Z3 n j]=D4 n (j+1):=(MP n j).symm;refine eK ?_;refine C1 (La rfl rfl Ab (Yi Ab)) (C1 (Fj Ac rfl rfl rfl (K9 _ Ab Ab)) (C1 (Ia rfl rfl (K9 _ Ab Ab)) (C1 Mv (C1 (Gz rfl rfl Ab (Yh Ab Ab Ab)) (C1 (Fj Ac rfl rfl rfl (K9 _ Ab Ab)) (C1 (Ia rfl rfl (K9 _ Ab Ab)) (Ax (xS [_,_]) rfl ?_ aFh)))))));rintro _ a9 ⟨ba,rfl,V,bb⟩;have aj:=V.blk;have ak:=V.ext;have bc:=V.pos;have bd:=V.size;revert G X;refine eE ak ?_;intro G X;refine C1 (ZH (bs:=eG j) Ac rfl rfl rfl rfl Af (λwz hz=>by rw [show wz=_ from hz];exact Vo Af hv)) (C1 (Vy rfl rfl (by simp only [gD,hH];omega)) (eK ?_));refine C1 (Fj Ac rfl rfl rfl (gz _ Ab)) (C1 V7 (eQ rfl (Kq 40 _) ?_));rintro _ au ⟨av,al,am,an,ao,ap,⟨⟩,N,O,aw,ad⟩;revert G X;refine eY ad ?_;intro ax G X;refine C1 (xB [_,_,_,_,_,_,_,_,_,_,_,_]) (Ax (xS [_,_,_,_,_,_,_,_,_,_,_,_]) rfl ?_ aFh);rintro _ ay ⟨az,rfl,M,a0⟩
   have ae:=M.blk;have af:=M.ext;have a1:=M.pos;have a2:=M.size;revert N O G X;refine eE af ?_;intro N O G X;refine Lx (sh:=E7) (z:=Z3 n j) Ac Cs rfl rfl rfl rfl AT rfl rfl rfl G (Blk.row Af) ⟨_,_,_,_,_,_,rfl,PG.sits.wide Af (λb h=>⟨Ab,λe=>by have:=ab _ e;omega⟩),PDsC.wide Af (λb h=>⟨Ab,λe=>by have:=ab _ e;omega⟩),Af⟩ Ab Ab rfl ?_;rintro ag U a3 Y ah;clear ae N O aj G;have X:=X.fr ah Ab;refine C1 Pa (Ak (Ah (Ai (Al (C1 Mv (C1 V7 (C1 Pa (Ak ?_))))))));rw [ac] at Y;rw [ac];exact Aw (j+1,some ⟨ag,0,none⟩,U) sB ⟨aa,Y,X⟩ (by simp only;omega)
 . obtain rfl:j=101:=by omega
   have ai:=OwnL.cap5 G;rw [D5] at ai;have Z:EXs (λb=>w.heap.size<=b) w1 (D4 n 101) a:=OwnL.exs5 G (λb h=>h);have a4:=ZJ (x:=Z3 n 100) (l:=D4 n 100) (by rw [<-MP];exact Z);have HN:=gp (λw1 h=>Rd (D4 n 100) (Ri n 100) (by rw [D5];omega) (fN h0 h1) (λb=>w.heap.size<=b) a cap w1 h);have HM:=gp (λw1 h=>TJ (D4 n 101) (Ri n 101) (by rw [D5];omega) (eH n) Ab (λb=>w.heap.size<=b) a cap w1 h);rw [D5] at HN HM;rw [D5];clear G;refine eK ?_;refine C1 (Dn (m:=100) Ac rfl rfl rfl rfl rfl Ab) (eQ rfl (HN.out _ Af) ?_);rintro _ be ⟨a5,bf,bg,⟨⟩,bh,bi,aq⟩;revert X Z;refine eE aq ?_;intro X Z;refine kC (HM.out _ Af) ?_;rintro _ a6 ⟨⟨⟩,ar⟩;have X:=X.ext ar;refine eK ?_;refine C1 (Mh Ac rfl rfl) (eK ?_);refine C1 (FQ Ac rfl rfl) (kR ?_);exact ⟨rfl,X⟩
def ZK (U:j<es.length):(ER es es[j].name<j)↔es[j].name∈(es.take j).map (·.name):=by
 have G:0<=ER es es[j].name:=exIV_mem.2 (List.mem_map_of_mem (gA U));unfold ER at G ⊢;split at G
 . rename_i i N;unfold Rs at N;obtain ⟨h1,V,X⟩:=List.findIdx?_eq_some_iff_getElem.1 N;constructor
   . intro h;have M:es[i].name=es[j].name:=by simpa using V
     rw [<-M];exact List.mem_map_of_mem (by rw [List.mem_take_iff_getElem];exact ⟨i,Ab,rfl⟩)
   . intro h;obtain ⟨x,Y,Z⟩:=List.mem_map.1 h;obtain ⟨m,hm,rfl⟩:=List.mem_take_iff_getElem.1 Y;rcases gK m i with O|O
     . have:=X m O;simp [Z] at this
     . omega
 . exact absurd G Ab
def SH (N:j<es.length):((es.take (j+1)).map (·.name)).Nodup↔((es.take j).map (·.name)).Nodup/\es[j].name∉(es.take j).map (·.name):=by
 rw [gx N,List.map_append,List.nodup_append];constructor
 . rintro ⟨G,-,O⟩;exact ⟨G,λh=>O _ h _ AN rfl⟩
 . rintro ⟨G,U⟩;refine ⟨G,AN,λa V b M e=>U ?_⟩;simp only [im,List.map_nil,ia] at M;rw [<-M,<-e];exact V
def Rj (s:Bv):∀ps:List (Bv×Int),Cf [] s ps=0
 | []=>rfl
 | x::r=>by rw [Cf,Rj s r];simp [Cb]
def Vp {l:List EX} (N:l.length<=4) (h:(k=0/\(∀e∈l,e.valid)/\(l.map (·.name)).Nodup)\/(k=3 /\ ¬ ∀e∈l,e.valid)\/(k=22/\(∀e∈l,e.valid) /\ ¬(l.map (·.name)).Nodup)):E8 l=k:=by
 unfold E8;rw [AB Ab];rcases h with ⟨rfl,G,M⟩|⟨rfl,G⟩|⟨rfl,G,M⟩
 . rw [AQ G,AQ M]
 . rw [AB G]
 . rw [AQ G,AB M]
def Kr {l:List EX} (h:E8 l=0):(∀e∈l,e.valid)/\(l.map (·.name)).Nodup:=by
 unfold E8 at h;split at h
 . omega
 . split at h
   . split at h
     . exact ⟨Af,Af⟩
     . omega
   . omega
def NewH (l:List EX) (w:wD):Ending->wD->Prop:=λe w'=> ∃p k,e = .returned (.tuple #[.pointer p,.int .i64 k])/\Hid (k=E8 l/\((p=none/\k≠0)\/(k=0 /\ ∃bb M X,p=some ⟨bb,0,none⟩/\BkAt M X w' bb l [])))/\Ext w w'
def NewH.ret {l:List EX} (h:NewH l w e w'):∃v,e = .returned v:=by
 obtain ⟨_,_,h,-⟩:=h;exact ⟨_,h⟩
def eJ (l:List EX) (h:∀e∈l,e.wf) (G:l.length<=1000000) (S:nP) (a:oA) (c:Nat) (w:wD) (N:EXs S w l a) :
 Calls prog 13 #[.slice a l.length c] w (NewH l w):=by
 refine ir (WG l h G S a c w N) ?_;rintro e w' ⟨p,k,rfl,O,X,U⟩;exact ⟨p,k,rfl,gp ⟨O,U.imp id λ⟨V,bb,M,Y,h4,h5,_⟩=>⟨V,bb,M,Y,h4,h5⟩⟩,X⟩
def Rk (l:List EX) (s n:Bv):Cf [] s (Ir l)=0/\C4 [] s n=0:=⟨Rj s _,rfl⟩
set_option maxHeartbeats 8000000 in
def ZL (l:List EX) (hl:∀e∈l,e.name.length<=9223372036854775807/\e.g.wf) (S:Nat->Prop) (a:Option Addr) (c:Nat) (w:World) (G:EXs S w l a) :
 Calls prog 5 #[.slice a l.length c] w λe w'=>e = .returned (.bool true)/\Ext w w':=by
 have X:=iK w;replace G:=G.ltA;have HM:=gp (λw1 h=>OV l [] (λe he=>(hl e he).2) AN (· < w.heap.size) (λ_=>True) a none c 0 w1 h (gq rfl));simp only [hH] at HM;refine Ad func5 ntmps5 rfl rfl ?_
 focus
  refine cS (C1 Pa (cT (Aj (cS (cC rfl (Gt _) ?_)))));rintro _ w2 ⟨⟨⟩,x1⟩;have z3:=x1.size;revert X G;refine eE x1 ?_;intro X G;clear x1;refine C1 Pt (cT (AY rfl (Ao (Ai (Aj (cS (C1 Mv (eQ rfl (HM.out _ Af) ?_))))))));rintro _ w7 ⟨q4,⟨⟩,h5,x6⟩;have z8:=x6.size;revert X G;refine eE x6 ?_;intro X G;clear x6;refine C1 V1 (cT (Ay rfl (λc9=>?_) (λc9=>?_)));refine cS (C1 Pa (cT (AM (Au (AP rfl rfl ?_)))));rotate_left;refine Ao (Ai ?_);rotate_left
 . exact ⟨rfl,X⟩
 obtain ⟨a3,-,an,-⟩:=(h5.resolve_left c9).2
 have hw:∀e∈l,e.wf:=λe he=>⟨(hl e he).1,(hl e he).2,by have:=(an e he).1;omega⟩
 have HN:=gp (λw1 h=>eJ l hw Ab (· < w.heap.size) a c w1 h);have HV:=gp (λe he S va vc pa pc ma mc w1 h=>J7 e (hw e he) S va vc pa pc ma mc w1 h);have HF:=gp (λs w1 h=>XR l Ab s (· < w.heap.size) a c w1 h);clear hl an h5 HM
 refine cS (C1 Mv (eQ rfl (HN.out _ Af) ?_));rintro _ ap ⟨ah,ai,⟨⟩,a0,aq⟩;have a4:=aq.size;revert X G;refine eE aq ?_;intro X G;clear aq;refine C1 Mv (C1 Px (C1 Px (C1 Pa (C1 Pa (cN (C1 Pa (cT (Aj (cS (C1 Pa (cT ?_)))))))))))
 have HX:=gp X;have bh:=X.size;have X5:=iK ap;clear X HN z3 z8 a4;refine As ?_;refine AG (ι:=Nat×Int) (λx=>[(0,.slice a l.length c),(3,.pointer ah),(4,.int .i64 ai),(5,.int .i64 x.2),(6,.int .i64 x.1)])
  (λx w'=>x.1<=l.length/\((x.2=0 /\ ∀e∈l.take x.1,e.valid)\/(x.2=3 /\ ¬ ∀e∈l,e.valid))/\EXs (· < w.heap.size) w' l a/\Ext ap w') (λx=>l.length-x.1) (0,0) sB ⟨gC _,gq ⟨rfl,AN⟩,G,X5⟩ ?_
 clear G X5;rintro ⟨j,k⟩ w1 ⟨hj,hk,G,X⟩;simp only at hj hk;refine jl (m:=[(0,.slice a l.length c),(3,.pointer ah),(4,.int .i64 ai),(5,.int .i64 k),(6,.int .i64 j)]) ?_ sB
 by_cases N:j<l.length
 . obtain ⟨kb,ko,rfl,-,U⟩:=i9 G Ab;obtain ⟨va,vc,pa,pc,ma,mc,O,sx⟩:=U j l[j] (gm N);have aj:=gp (HV.out l[j] (gA N))
   have V:l[j].valid->((k=0 /\ ∀e∈l.take (j+1),e.valid)\/(k=3 /\ ¬ ∀e∈l,e.valid)):=λh=>hk.imp (λ⟨h1,h2⟩=>⟨h1,λe he=>by
    rw [gx N,List.mem_append,ia] at he
    rcases he with he|rfl
    . exact h2 e he
    . exact h⟩) id
   have ab:¬l[j].valid -> ¬ ∀e∈l,e.valid:=λh h2=>h (h2 _ (gA N))
   clear U HV hk
   generalize l[j]=x at *
   rcases Classical.em x.valid with hv|hv
   . rw [decide_eq_true hv] at aj;have hq:=V hv;clear V ab hv
     unfold jg at *
     refine Aj (cS (C1 Mv (C1 Mv (C1 Pz (C1 V3 (cT (O8 (Ao (Ai (Aj (As (cS (C1 Mv (C1 Mv (C1 Pi (C1 (VF O) (cC rfl (aj.out _ _ _ _ _ _ _ _ Af) ?_)))))))))))))))));rintro _ bi ⟨⟨⟩,ar⟩;have bj:=ar.size;revert X G O sx;refine eE ar ?_;intro X G O sx;clear ar;refine C1 Pt (cT (AY rfl (Ao (Ah (Ai (Al (C1 Mv (C1 V7 (C1 Pa (Ak ?_))))))))))
     exact Aw (j+1,k) sB ⟨N,hq,G,X⟩ (by simp only;omega)
   . rw [decide_eq_false hv] at aj;have hq:=ab hv;clear V ab hv
     unfold jg at *
     refine Aj (cS (C1 Mv (C1 Mv (C1 Pz (C1 V3 (cT (O8 (Ao (Ai (Aj (As (cS (C1 Mv (C1 Mv (C1 Pi (C1 (VF O) (cC rfl (aj.out _ _ _ _ _ _ _ _ Af) ?_)))))))))))))))));rintro _ bk ⟨⟨⟩,au⟩;have bl:=au.size;revert X G O sx;refine eE au ?_;intro X G O sx;clear au;refine C1 Pt (cT (BJ rfl (Al (C1 Pa (Ak (Ah (Ai (Al (C1 Mv (C1 V7 (C1 Pa (Ak ?_))))))))))))
     exact Aw (j+1,3) sB ⟨N,gt ⟨rfl,hq⟩,G,X⟩ (by simp only;omega)
 . obtain rfl:j=l.length:=by omega
   rw [gF] at hk;clear HV
   refine Aj (cS (C1 Mv (C1 Mv (C1 Pz (C1 V3 (cT (C6 (BF (Av (Av (AO (Ai (Aj (cS (C1 Pa (cT (As ?_)))))))))))))))))
   refine AG (ι:=Nat×Int) (λx=>[(0,.slice a l.length c),(3,.pointer ah),(4,.int .i64 ai),(5,.int .i64 x.2),(7,.int .i64 x.1)])
    (λx w'=>x.1<=l.length/\((x.2=0/\(∀e∈l,e.valid)/\((l.take x.1).map (·.name)).Nodup)\/(x.2=3 /\ ¬ ∀e∈l,e.valid)\/(x.2=22/\(∀e∈l,e.valid) /\ ¬(l.map (·.name)).Nodup))/\EXs (· < w.heap.size) w' l a/\Ext ap w') (λx=>l.length-x.1) (0,k) sB ⟨gC _,hk.imp (λ⟨h1,h2⟩=>⟨h1,h2,AN⟩) gq,G,X⟩ ?_
   clear G X hk hj N;rintro ⟨j,k⟩ w1 ⟨hj,hk,G,X⟩;simp only at hj hk;refine jl (m:=[(0,.slice a l.length c),(3,.pointer ah),(4,.int .i64 ai),(5,.int .i64 k),(7,.int .i64 j)]) ?_ sB
   by_cases N:j<l.length/\k=0
   . obtain ⟨N,rfl⟩:=N;obtain ⟨-,ao,a1⟩:=hk.resolve_right (by rintro (h|h)<;>omega);have ht:=ZK N;have av:=SH N;obtain ⟨kb,ko,rfl,-,U⟩:=i9 G Ab;obtain ⟨va,vc,pa,pc,ma,mc,O,sx⟩:=U j l[j] (gm N)
     have V:¬ER l l[j].name<j->((l.take (j+1)).map (·.name)).Nodup:=λh=>av.2 ⟨a1,λh2=>h (ht.2 h2)⟩
     have ab:ER l l[j].name<j -> ¬(l.map (·.name)).Nodup:=λh h2=>by
      have h3:((l.take (j+1)).map (·.name)).Nodup:=by
       rw [List.map_take]
       exact h2.sublist (List.take_sublist ..)
      exact (av.1 h3).2 (ht.1 h)
     clear U hk ht av a1
     generalize l[j]=x at *
     unfold jg at *
     focus
      refine Aj (cS (C1 Mv (C1 Mv (C1 Pz (C1 V3 (C1 Mv (TV (C1 Mv (TV (C1 V1 (C1 TU (cT (Vv (Ao (Ai (Aj (As (cS (C1 Mv (C1 Mv (C1 Mv (C1 Pi (C1 Pg (C1 (SR O) (cC rfl (HF.out _ _ Af) ?_)))))))))))))))))))))))));rintro _ bm ⟨⟨⟩,aw⟩;have bn:=aw.size;revert X G O sx;refine eE aw ?_;intro X G O sx;clear aw;refine C1 Mv (C1 V3 (cT (Ay rfl (λax=>?_) (λax=>?_))));refine Al (C1 Pa (Ak (Ah (Ai (Al (C1 Mv (C1 V7 (C1 Pa (Ak ?_)))))))));rotate_left;refine Ao (Ah (Ai (Al (C1 Mv (C1 V7 (C1 Pa (Ak ?_)))))));rotate_left
     . exact Aw (j+1,22) sB ⟨N,gt (gt ⟨rfl,ao,ab ax⟩),G,X⟩ (by simp only;omega)
     . exact Aw (j+1,0) sB ⟨N,gq ⟨rfl,ao,V ax⟩,G,X⟩ (by simp only;omega)
   . have ak:E8 l=k:=by
      refine Vp a3 (hk.imp (λ⟨h1,h2,h3⟩=>⟨h1,h2,?_⟩) id)
      obtain rfl:j=l.length:=by omega
      rwa [gF] at h3
     obtain ⟨e1,e2⟩:=a0.out;rw [ak] at e1;subst e1;clear hk HF a0
     rcases e2 with ⟨rfl,h0⟩|⟨rfl,bb,M,Y,rfl,Z⟩
     . clear ak
       focus
        refine Aj (cS (C1 Mv (C1 Mv (C1 Pz (C1 V3 (C1 Mv (BY rfl rfl rfl (λa5=>?_) (λa5=>?_))))))));refine cK (C1 Mv (cK (C1 V1 (C1 Ry (cT (VG (BF (Av (Av (AO (Ai (Aj (cS (C1 Mv (C1 Mv (C1 V2 (C1 Mv (DK (C1 Mv (DK (C1 V2 (C1 K5 (cT (VH (cS (C1 Mv (C1 Mv (C1 V1 (C1 Mv (TV (C1 Mv (TV (C1 (FQ Ac rfl rfl) (C1 TU (C1 Pa (cT (AM (Au (AP rfl rfl ?_)))))))))))))))))))))))))))))))))))))));rotate_left;refine O2 (O2 (C1 O1 (cT (AY rfl (BF (Av (Av (AO (Ai (Aj (cS (C1 Mv (C1 Mv (C1 V2 (C1 Mv (DK (C1 Mv (DK (C1 V2 (C1 K5 (cT (VH (cS (C1 Mv (C1 Mv (C1 V1 (C1 Mv (TV (C1 Mv (TV (C1 (FQ Ac rfl rfl) (C1 TU (C1 Pa (cT (AM (Au (AP rfl rfl ?_)))))))))))))))))))))))))))))))))))));rotate_left
       all_goals exact ⟨rfl,(HX.out).trans X⟩
     . obtain rfl:j=l.length:=by omega
       have hp:∀e∈l,0<=e.points/\e.points<=1000:=λe he=>by have:=((Kr ak).1 e he).1.2.1;omega
       have Z:=Z.ext X;have HA:=gp (λn w1 h=>GT M Y bb l [] [97,110,110] n w1 h);have HP:=gp (λw1 h=>Fw M Y bb l Ab hp [] [97,110,110] w1 h);have HR:=gp (λw1 h=>Ko M Y bb l Ab hp [] CH w1 h);have HS:=gp (λw1 h=>I4 M Y bb l [] CH w1 h)
       rw [(Rk l _ []).1] at HP
       replace HX:=gp ((HX.out).trans X);have X1:=iK w1;clear X ak hp hw N hj
       by_cases h0:l.length=0
       . refine Aj (cS (C1 Mv (C1 Mv (C1 Pz (C1 V3 (C1 Mv (cW (cW (C1 K5 (cT (AY rfl ?_)))))))))));refine BF (Av (Av (AO (Ai (Aj (cS (C1 Mv (C1 Mv (C1 V2 (C1 Mv (Z7 (C1 Mv (Z7 (C1 V2 (C1 XZ (cT (Lb (Ao (Ai (cS (C1 Mv (C1 (Mh Ac rfl rfl) (C1 Mv (A1 rfl rfl rfl (rfl) (C1 Mv (A1 rfl rfl rfl (rfl) (eQ rfl (HS.out _ Af) ?_)))))))))))))))))))))))))));rintro _ bo ⟨bp,bq,⟨⟩,al,ay⟩;have br:=ay.size;revert G Z X1;refine eE ay ?_;intro G Z X1;clear ay;refine A1 rfl rfl rfl (rfl) (C1 Pz (A1 rfl rfl rfl (rfl) (C1 V1 (C1 (BM rfl rfl rfl) (C1 Mv (G2 (C1 Mv (G2 (eQ rfl (HR.out _ Af) ?_)))))))));rintro _ a6 ⟨bs,bt,⟨⟩,a2,ac⟩;have a7:=ac.size;revert al G Z X1;refine eE ac ?_;intro al G Z X1;clear ac;refine G2 (C1 Pz (G2 (C1 V1 (C1 Vu (C1 Mv (A1 rfl rfl rfl (Gc (rfl)) (C1 Mv (A1 rfl rfl rfl (Gc (rfl)) (cC rfl (HP.out _ Af) ?_)))))))));rintro _ a8 ⟨⟨⟩,ad⟩;have a9:=ad.size;revert a2 al G Z X1;refine eE ad ?_;intro a2 al G Z X1;clear ad;refine A1 rfl rfl rfl (Gc (rfl)) (C1 V1 (C1 (Qy (rfl)) (C1 Mv (G2 (C1 Mv (G2 (C1 Pz (G2 (C1 V1 (G2 (C1 Mv (ZQ (ZQ (ZQ (ZQ (ZQ (ZQ (ZQ (G2 (C1 TU (C1 Vu (C1 Pa (cT (AM (AP rfl rfl ?_)))))))))))))))))))))))))
         all_goals exact ⟨rfl,(HX.out).trans X1⟩
       . obtain ⟨kb,ko,rfl,-,U⟩:=i9 G Ab;obtain ⟨va,vc,pa,pc,ma,mc,O,-⟩:=U 0 l[0] (gm Ab);have HA:=gp (HA.out (l[0]'(by omega)).name)
         rw [(Rk l _ _).2] at HA
         clear U
         generalize l[0]'(by omega)=x at *
         unfold jg at O
         refine Aj (cS (C1 Mv (C1 Mv (C1 Pz (C1 V3 (C1 Mv (cW (cW (C1 K5 (cT (AY rfl (BF (Av (Av (AO (Ai (Aj (cS (C1 Mv (C1 Mv (C1 V2 (C1 Mv (Z7 (C1 Mv (Z7 (C1 V2 (C1 XZ (cT (Lb (Ao (Ai (cS (C1 Mv (C1 (Mh Ac rfl rfl) (C1 Mv (A1 rfl rfl rfl (rfl) (C1 Mv (A1 rfl rfl rfl (rfl) (eQ rfl (HS.out _ Af) ?_)))))))))))))))))))))))))))))))))))))));rintro _ bu ⟨bv,bw,⟨⟩,aa,az⟩;have bx:=az.size;revert Z X1 G O;refine eE az ?_;intro Z X1 G O;clear az;refine A1 rfl rfl rfl (rfl) (C1 Pz (A1 rfl rfl rfl (rfl) (C1 V1 (C1 (BM rfl rfl rfl) (C1 Mv (G2 (C1 Mv (G2 (eQ rfl (HR.out _ Af) ?_)))))))));rintro _ ba ⟨bz,b0,⟨⟩,am,ae⟩;have bc:=ae.size;revert aa Z X1 G O;refine eE ae ?_;intro aa Z X1 G O;clear ae;refine G2 (C1 Pz (G2 (C1 V1 (C1 Vu (C1 Mv (A1 rfl rfl rfl (Gc (rfl)) (C1 Mv (A1 rfl rfl rfl (Gc (rfl)) (cC rfl (HP.out _ Af) ?_)))))))));rintro _ bd ⟨⟨⟩,af⟩;have be:=af.size;revert am aa Z X1 G O;refine eE af ?_;intro am aa Z X1 G O;clear af;refine A1 rfl rfl rfl (Gc (rfl)) (C1 V1 (C1 (Qy (rfl)) (C1 Mv (G2 (C1 Mv (G2 (C1 Pz (G2 (C1 V1 (G2 (C1 Mv (DK (C1 Mv (DK (C1 Mv (DK (C1 Pi (DK (C1 Pg (DK (C1 (Pw O) (DK (cC rfl (HA.out _ Af) ?_)))))))))))))))))))))))
         rintro _ bf ⟨⟨⟩,ag⟩;have bg:=ag.size;revert am aa Z X1 G O;refine eE ag ?_;intro am aa Z X1 G O;clear ag;refine DK (C1 V1 (G2 (C1 K5 (C1 Vu (C1 Pa (cT (AM (AP rfl rfl ?_))))))))
         all_goals exact ⟨rfl,(HX.out).trans X1⟩
end Bk
namespace Bk
open Go Go.RowKit Go.Proofs
def MQ (M X:nP) (G:Nat) (es:List EX) (ac:es.length<=4) (Z:∀e∈es,e.wf/\e.fuel<=400) (L:List AtV) (hL:L.length<=1000) (s n:Bv) (h:s.length<=9223372036854775807) (p:PG) (hp:p.wf) (ad:p.vars.length<=4) (S:nP) (O:oA) (vc:Nat) (N:oA) (V:Nat) (U:oA) (Y:Nat) (w:wD)
 (hb:BkAt M X w G es L) (hs:p.sits S w O N U) (aa:PDsC S w p.procs N) (ab:p.vars.length<=vc) :
 Calls prog 14 #[.pointer (some ⟨G,0,none⟩),str s,str n,.agg (p.cells O vc N V U Y).toArray] w (SubR M X G es (Bz es L s n p) w):=by
 cases hq:Cj s
 . exact Q5 M X G es Ab L s n h p (gq hq) O vc N V U Y w hb
 cases hi:Rs es n with
 | none=>exact Q5 M X G es Ab L s n h p (gt hi) O vc N V U Y w hb
 | some i=>
  obtain ⟨e,he,-,-⟩:=Q4 hi;obtain ⟨h1,h2⟩:=Z e (io he);exact Q7 M X G es Ab L Ab s n h hq e i hi he h1 Ab p hp Ab S O vc N V U Y w hb hs aa ab
def Hw (es:List EX) (L:List AtV) (s n:Bv) (p:PG):(Bz es L s n p).2.length<=L.length+1:=by
 have h:∀ok,(IW L s n ok).length<=L.length+1:=λok=>by unfold IW;split<;>simp
 unfold Bz;split
 . split
   . simp
   . split
     . simp
     . split
       . simp
       . exact h _
 . simp
noncomputable def Hx (es:List EX) (L:List AtV) (subs:List SB):List AtV:=subs.foldl (λL s=>(Bz es L s.stu s.name s.ans).2) L
def SI (es:List EX) (L:List AtV) (h:List SB) (s:SB):Hx es L (h++[s])=(Bz es (Hx es L h) s.stu s.name s.ans).2:=by
 unfold Hx;rw [List.foldl_append];rfl
def Ks (es:List EX):∀(h:List SB) (L:List AtV),(Hx es L h).length<=L.length+h.length
 | [],L=>by simp [Hx]
 | s::r,L=>by
  have M:=Hw es L s.stu s.name s.ans;have G:=Ks es r (Bz es L s.stu s.name s.ans).2;unfold Hx at G ⊢;rw [List.foldl_cons,gD];omega
def Rm (L:List AtV) (ps:List (Bv×Int)):(Ek G0 L).length=(Ek (MX L ps) L).length/\(∀x,x∈Ek G0 L->x∈Ek (MX L ps) L)/\(Ek G0 L).Pairwise (λa b=>a<b)/\(Ek (MX L ps) L).Pairwise (λa b=>Cf L b ps<=Cf L a ps):=by
 obtain ⟨G,O⟩:=Fe nlt_tot L [] List.Pairwise.nil;obtain ⟨M,U⟩:=Fe (OE L ps) L [] List.Pairwise.nil;have N:∀x,x∈Ek G0 L↔x∈Ek (MX L ps) L:=λx=>(O x).trans (U x).symm
 refine ⟨?_,λx=>(N x).1,G.imp λh=>by simpa [G0] using h,M.imp λh=>by simp only [MX,decide_eq_true_eq] at h;omega⟩;exact ((List.perm_ext_iff_of_nodup (Ed nlt_tot G) (Ed (OE L ps) M)).2 N).length_eq
def TK {α:Type} {r:α->α->Prop} {l:List α} (h:l.Pairwise r) {i:Nat} (G:i+1<l.length):r l[i] l[i+1]:=List.pairwise_iff_getElem.1 h i (i+1) Ab G Ab
attribute [local irreducible] Go.Calls
section
variable {es:List EX} {L:List AtV}
end
end Bk
