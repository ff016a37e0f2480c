/- Texts that the proofs of GradebookNone, GradebookFull, GradebookNew, GradebookRanks, GradebookApart need. No condition. (Part 6 of 13.) -/
import Derived.Test.YteiiipaobncfgaaGreatPGua5
set_option linter.unusedSimpArgs false
set_option linter.unusedVariables false
set_option linter.defProp false
set_option maxRecDepth 100000
set_option maxHeartbeats 4000000
open Go.Proofs.Tryz
open List renaming getElem?_eq_getElem->gm,take_succ_eq_append_getElem->gx,getElem_mem->gA,length_cons->gD,take_length->gF,getElem?_eq_none->gG,getElem?_append_left->gJ,length_append->gO,replicate->gT,getElem?_append_right->gU,getElem?_map->gV,drop_eq_getElem_cons->gW,getElem?_cons_zero->gX,getD_eq_getElem?_getD->gY,append_assoc->gZ,length_nil->hH,mem_singleton->ia,length_take->ij,mem_cons->ik,map_cons->im,mem_of_getElem?->io,range->it,getElem?_set_ne->iF,not_mem_nil->iH
open Go.Lib renaming hid->gp
open Or renaming inl->gq,inr->gt
open Bool renaming and_eq_true->gu,false_eq_true->iE
open Go.Result renaming andThen->gw
open Option.some renaming injEq->gy,inj->gB
open Go.IntWalk renaming i64_in->gz
open Nat renaming zero_le->gC,le_refl->gI,lt_or_ge->gK,blt->gM,le_of_ble_eq_true->gS,eq_of_beq_eq_true->ip,zero_add->iu,ble->iy,beq->iA
open Go.Sem renaming run_bind->gE,run_pure->gP
open Go renaming Calls->gH
open Except renaming bind->gL
open Go.Value renaming slice->gN,int->ii,ownBlock->iI
open Go.Region renaming ready->gQ,binds->iw
open Go.Value.slice renaming injEq->gR
open Go.DataW renaming trod->ic
open List.cons renaming injEq->ig
open Go.Builtin renaming zeroCells->iq
open Go.Calls renaming mono->ir
open Array renaming getElem?_eq_none->iv,replicate->iD
open Go.Oper renaming wp->iB
open Go.Addr renaming add->iC
open Go.IntKind renaming wrap->iG
open Go.Op renaming equalIn->iJ
open Bk.Ext renaming refl->iK
open Bk.Nd.sits renaming fr->iL,wide->iR,ext->jn
open Bk.Fr renaming of_ext->iM,refl->iP,fr->iU
open Bk.Blk renaming fr->iN,cell->iV,ext->iW
open Bk.Row renaming ext->iO,at0->iT,fr->i8
open Bk.Own renaming fr->ja
open Bk.StR renaming same->jc
open Bk.Nd renaming name->jd,kind->jj
open Bk.Stp renaming transfer->je
open Bk.rowSits renaming ext->jf,fr->jh
open Bk.VDs renaming fr->jm
open Bk.OwnI renaming fr->jr
namespace Bk
open Go Go.RowKit Go.Proofs
attribute [local irreducible] Go.Calls
variable {n c i g d:Nat} {k u:Int} {xs:List Int} {l:List Nd} {Z:Except Int Rn} {s:lB} {x:Nd} {w1:wD} {e:Ending} {vv:Value} {cs:lV}
section
variable {ρ:Nat->Rl} {κ:Nat->Nat} {K:List (Int×Int)} {m sb:Nat} {st:Stp} {w:wD}
def StoreAt.newCell (h:StoreAt ρ κ w sb st) (M:CellAt ρ κ w st.heap.length xs):StoreAt ρ κ w sb { st with heap:=st.heap++[xs] }:=by
 obtain ⟨N,O,U,V⟩:=h;refine ⟨N,O,U,λc ys G=>?_⟩;simp only at G;rcases Nat.lt_trichotomy c st.heap.length with h|h|h
 . rw [gJ h] at G;exact V c ys G
 . subst h;rw [gU (gI _)] at G;simp only [Nat.sub_self,gX,gy] at G;subst G;exact M
 . rw [gG (by simp;omega)] at G;cases G
def KY (st:Stp) (f:Frm):(st.setCur f).heap=st.heap:=by
 unfold Stp.setCur;split<;>rfl
def Stp.WF.cells_lt (h:st.WF K m) {f:Frm} (G:f∈st.base::st.calls) (M:c∈f.cells):c<st.heap.length:=by
 rw [h.len];exact (h.all' f G).lt M
def WP {N:Nat} {post:lV} {T:TypeId} {vc:Value} {v:VD} {κ':Nat->Nat} {ρ':Nat->Rl} {w':wD} {cb:Nat} (hw:st.WF K m) (G:QB ρ κ w sb st N n cs post T) (M:ρ N = .store\/ρ N = .calls) (hκ:∀c,c≠st.heap.length->κ' c=κ c) (O:κ' st.heap.length=cb) (hr:Ro ρ ρ' w) (Y:Fresh ρ' w') (x:Fr (Fa ρ st.calls.length N) w w')
 (U:Win w' N n [vv,vc,.int .i64 ((st.cur.locals:Int)+1)] cs post T) (V:FrameOk ρ' κ' w' st.calls.length ⟨st.cur.vars++[v],st.cur.cells++[st.heap.length],st.cur.locals⟩ vv vc) (Z:ρ' cb = .cell st.heap.length) (X:∃u,Blk w' cb [u]/\OwnR ρ' (.items st.heap.length) w' u xs) :
 StR ρ sb { st.setCur ⟨st.cur.vars++[v],st.cur.cells++[st.heap.length],st.cur.locals+1⟩ with heap:=st.heap++[xs] } 0 w (.returned (.int .i64 0)) w':=by
 have h1:=G ρ' κ' w' ⟨st.cur.vars++[v],st.cur.cells++[st.heap.length],st.cur.locals+1⟩ vv vc hr Y (λf V c X=>hκ c (by have:=hw.cells_lt V X;omega)) (λc X=>hκ c Ab) x (by simpa using U) ⟨V.v,V.c⟩;have h2:=h1.newCell (xs:=xs) (by
  rw [KY];exact ⟨by rw [O];exact Z,by rw [O];exact X⟩)
 rw [KY] at h2;refine ⟨ρ',κ',rfl,hr,h2,x.weaken (λk hk=>?_)⟩;rcases hk with rfl|h|h
 . rcases M with h|h<;>rw [h]<;>trivial
 . rw [h];trivial
 . rw [h];trivial
def FD (ρ:Nat->Rl) (n cb ib:Nat):Nat->Rl:=λb=>if b=cb then .cell n else if b=ib then .items n else ρ b
def O3 (κ:Nat->Nat) (n cb:Nat):Nat->Nat:=λc=>if c=n then cb else κ c
def QJ {j N:Nat} {f:Frm} {vc:Value} (hf:FrameOk ρ κ w j f vv vc) (V:Fresh ρ w) (Y:N<w.heap.size) (U:ρ N = .store\/ρ N = .calls) (Z:∀c∈f.cells,c≠n) (w1:wD) (cb G:Nat) (X:Ext w w1) (aa:w.heap.size<=cb) (ab:w.heap.size<=G) (h4:cb<w1.heap.size) (h5:G<w1.heap.size) :
 FrameOk (FD ρ n cb G) (O3 κ n cb) w1 j f vv vc/\(FD ρ n cb G N≠.vars j/\FD ρ n cb G N≠.cels j)/\Fresh (FD ρ n cb G) w1/\(∀k,Fa (FD ρ n cb G) j N k->Fa ρ j N k\/w.heap.size<=k) /\ ¬Fa (FD ρ n cb G) j N cb /\ ¬Fa (FD ρ n cb G) j N G:=by
 have e:∀b,b<w.heap.size->FD ρ n cb G b=ρ b:=λb hb=>by unfold FD;rw [AB Ab,AB Ab]
 have e1:FD ρ n cb G cb = .cell n:=by unfold FD;rw [AQ rfl]
 have O:FD ρ n cb G G = .cell n\/FD ρ n cb G G = .items n:=by
  unfold FD;by_cases h:G=cb
  . rw [AQ h];exact gq rfl
  . rw [AB h,AQ rfl];exact gt rfl
 refine ⟨hf.move (Fr.none X) (λ_ h=>h.elim) e (λc hc=>AB (Z c hc)),?_,λb hb=>?_,λk M=>?_,λM=>?_,λM=>?_⟩
 . rw [e _ Y];rcases U with h|h<;>rw [h]<;>exact ⟨AN,AN⟩
 . unfold FD;rw [AB Ab,AB Ab];exact V b Ab
 . rcases gK k w.heap.size with h|h
   . left;unfold Fa at M ⊢;rw [e k h] at M;exact M
   . exact gt h
 . unfold Fa at M;rw [e1] at M;rcases M with h|h|h
   . omega
   . cases h
   . cases h
 . unfold Fa at M;rcases M with h|h|h
   . omega
   . rcases O with O|O<;>rw [O] at h<;>cases h
   . rcases O with O|O<;>rw [O] at h<;>cases h
def aS (hw:st.WF K m) (hm:m<=100000) (v:VD) (hk:v.kind=1\/v.kind=3) (hl:v.len=0) (x:Int) (w:wD) (h:StoreAt ρ κ w sb st) :
 Calls prog 192 #[.pointer (some ⟨sb,0,none⟩),v.val,.int .i64 x] w (StR ρ sb (st.opens v x).2 (st.opens v x).1 w):=by
 have X:=iK w;have co:=hw.nc;have cp:=hw.curm;have au:=hw.cur;have bu:=au.len;have bv:=au.loc;obtain ⟨fb,fo,pre,post,T,vv,vc,O,ag,M,hf,ab⟩:=h.open;have HC:=gp (λw1 h=>Ey fb fo st.calls.length sb Ab w1 h);obtain ⟨av,cv,rfl,N⟩:=GV (S:=λ_=>True) hf.v.1 (λ_ _=>trivial);have hF:=λw1 h1 h2=>Mo st.cur.vars Ab v.name (λ_=>True) av cv vc (.int .i64 st.cur.locals) fb fo w1 h1 h2
 obtain ⟨vn,vk,vl⟩:=v;simp only at hk hl hF;subst hl;change Calls prog _ #[_,.agg #[str vn,.int .u8 vk,.int .i64 0],_] w _;cases hi:Ct vn st.cur.vars with
 | some i=>
  have e:st.opens ⟨vn,vk,0⟩ x=(22,st):=by unfold Stp.opens;rw [AQ (by simp [hi])]
  rw [show CE st.cur.vars vn=(i:Int) by unfold CE;rw [hi]] at hF;have hF:=gp hF;rw [e];have G:=M.blk;clear ab hf M au;generalize st.cur.vars=vs at *;refine Ad func192 ntmps192 rfl rfl ?_
  focus
   refine cS (eB [_,_,_] ?_);intro b1 w2 h4 x5 p6 z7;revert h X O N G;refine eE x5 ?_;intro h X O N G;refine eK ?_;refine C1 (A0 Ac rfl rfl) (eK ?_);refine BY rfl rfl rfl (λc8=>?_) (λc8=>?_);refine kC (HC.out _ Af) ?_;rintro _ cq ⟨⟨⟩,x9⟩;revert h4 h X O N G;refine eY x9 ?_;intro cr h4 h X O N G;refine kC (hF.out _ Af Af) ?_;rintro _ ct ⟨⟨⟩,bg⟩;revert h4 h X O N G;refine eY bg ?_;intro cu h4 h X O N G;refine kR ?_;rotate_left;refine kC (HC.out _ Af) ?_;rintro _ cw ⟨⟨⟩,bh⟩;revert h4 h X O N G;refine eY bh ?_;intro cx h4 h X O N G;refine kC (hF.out _ Af Af) ?_;rintro _ cy ⟨⟨⟩,bi⟩;revert h4 h X O N G;refine eY bi ?_;intro cz h4 h X O N G;refine kR ?_;rotate_left
  . exact jc Af X
  . exact jc Af X
 | none=>
  rw [show CE st.cur.vars vn = -1 by unfold CE;rw [hi]] at hF;have hF:=gp hF;have e:st.opens ⟨vn,vk,0⟩ x=(0,{ st.setCur ⟨st.cur.vars++[⟨vn,vk,0⟩],st.cur.cells++[st.heap.length],st.cur.locals+1⟩ with heap:=st.heap++[if vk=1 then [x] else []] }):=by unfold Stp.opens;rw [AB (by simp [hi])]
  rw [e];have aq:=gp (λxs κ' ρ' w' vv vc cb=>WP (v:=⟨vn,vk,0⟩) (xs:=xs) (κ':=κ') (ρ':=ρ') (w':=w') (vv:=vv) (vc:=vc) (cb:=cb) hw ab ag);have c0:=gp h.fresh;have bj:fb<w.heap.size:=M.1.blk.lt;have G:=M.blk;have F:=iP (Fa ρ st.calls.length fb) w;have HA:=gp (λw1 cb ib X bk bl h4 h5=>QJ (κ:=κ) (n:=st.heap.length) hf h.fresh bj ag (λc hc=>by have:=hw.cells_lt (OH st) hc;omega) w1 cb ib X bk bl h4 h5);clear ab h hf;rcases hk with rfl|rfl
  . refine Ad func192 ntmps192 rfl rfl ?_;refine cS (K8 rfl rfl rfl ?_);intro c1 c2 aw U;have bm:=aw.ext;have c3:=aw.pos;have c4:=aw.size;revert X O N M G F;refine eE bm ?_;intro X O N M G F;refine eK ?_;refine C1 (A0 Ac rfl rfl) (cT (AY rfl (Ao (Ai (Aj (cS (C1 Pf (C1 (Pl (TB.blk U)) (C1 V2 (C1 Mv (X0 (X0 (X0 (C1 XZ (C1 Mv (A1 rfl rfl rfl (rfl) (C1 Pf (A1 rfl rfl rfl (rfl) (C1 (Pl (TB.blk U)) (kC (HC.out _ Af) ?_))))))))))))))))))));rintro _ c5 ⟨⟨⟩,bn⟩;revert U X O N M G F;refine eY bn ?_;intro bw U X O N M G F;refine C1 Pa (cT (Aj (cS (C1 Mv (C1 Pg (C1 (Pl (TB.blk U)) (cC rfl (hF.out _ Af Af) ?_)))))));rintro _ bx ⟨⟨⟩,a0⟩;revert U X O N M G F;refine eY a0 ?_;intro bz U X O N M G F;refine eK ?_;refine C1 (xB [_]) (K8 rfl rfl rfl ?_);intro aa b0 ah ai;have a1:=ah.ext;have b2:=ah.pos;have b3:=ah.size;revert U X O N M G F;refine eE a1 ?_;intro U X O N M G F;refine C1 Pa (cT (Aj (cS (C1 Pf (C1 (Pl (TB.blk U)) (eK ?_))))));refine Ax (xS [_]) rfl ?_ aFh;rintro _ b4 ⟨ar,rfl,aj,a2⟩;have Y:TB _ _ _ _:=a2;have a3:=aj.ext;have b5:=aj.pos;have b6:=aj.size;revert ai U X O N M G F;refine eE a3 ?_;intro ai U X O N M G F;refine eK ?_;refine JS [_] [_] Ac rfl rfl rfl rfl rfl rfl (TB.blk ai) rfl rfl ?_;intro a4 ak;have ac:=ak.blk;have al:=ak.fr;have b7:=ak.size;have Y:=Y.fr al Ab;revert U X;refine eF al ?_;intro U X;clear N;revert M G F;refine eF al ?_;intro M G F;refine cT ?_
    obtain ⟨k1,k2,k3,k4,k5,k6⟩:=HA.out a4 aa ar X Ab Ab Ab Ab;have am:=gp (λw1 h1 h2 h3=>Tp (κ:=O3 κ st.heap.length aa) st.cur ⟨vn,1,0⟩ st.heap.length fb fo pre post T (.slice av st.cur.vars.length cv) vc (.int .i64 st.cur.locals) w1 h1 h2 k2 h3 Ab Ab);have k3:=gp k3;rw [show JP (O3 κ st.heap.length aa) st.heap.length = .pointer (some ⟨aa,0,none⟩) by unfold JP O3;rw [AQ rfl]] at am;refine eK ?_;refine A3 [_,_,_] Ac rfl rfl rfl (TB.blk U) rfl rfl rfl (C1 Mv (eQ rfl (am.out _ k1 M k3.out) ?_));rintro _ c6 ⟨b8,b9,a5,⟨⟩,ao,bo,bp,a6,ap⟩;have ca:=ap.size;have ac:=iN ac ap (k5);have Y:=TB.fr Y ap (k6);clear U M G;have F:=iU F ap (k4);refine eK ?_;refine Dh Ac rfl rfl rfl (Win.blk bp) rfl rfl (eK ?_);refine A2 (Cn fb fo 2 [_,_,_] Ac rfl rfl rfl rfl rfl rfl Af rfl rfl) (BA ?_);rintro _ a7 ⟨a8,ae,cc⟩;have cd:=ae.size;have a6:=FrameOk.fr a6 ae (λk hk=>by (rw [show k=fb from hk,ao fb Ab];exact k2));revert ac Y;refine eF ae ?_;intro ac Y;have F:=iU F ae (λk hk=>gq (gq hk));refine kR ?_;refine aq.out [x] (O3 κ st.heap.length aa) a5 a7 _ _ aa (λc hc=>AB hc) (AQ rfl) (λb hb=>?_) (λb hb=>bo b Ab) F a8 Af ?_ ⟨_,ac,OwnI.mk (xs:=[x]) (zs:=[]) (gC _) (by exact Y) RA,λk hk=>?_⟩
    . rw [ao b Ab];unfold FD;rw [AB Ab,AB Ab]
    . rw [ao _ Ab];exact AQ rfl
    . obtain rfl:=gB (show some ar=some k from hk);rw [ao _ Ab];unfold FD;rw [AB Ab,AQ rfl]
  . refine Ad func192 ntmps192 rfl rfl ?_;refine cS (K8 rfl rfl rfl ?_);intro c7 c9 ax V;have bq:=ax.ext;have da:=ax.pos;have db:=ax.size;revert X O N M G F;refine eE bq ?_;intro X O N M G F;refine eK ?_;refine C1 (A0 Ac rfl rfl) (cT (AY rfl (Ao (Ai (Aj (cS (C1 Pf (C1 (Pl (TB.blk V)) (C1 V2 (C1 Mv (G2 (C1 Pf (G2 (C1 (Pl (TB.blk V)) (G2 (C1 V2 (C1 Vu (C1 Mv (Z7 (C1 Pf (Z7 (C1 (Pl (TB.blk V)) (kC (HC.out _ Af) ?_)))))))))))))))))))))));rintro _ dc ⟨⟨⟩,br⟩;revert V X O N M G F;refine eY br ?_;intro ce V X O N M G F;refine C1 Pa (cT (Aj (cS (C1 Mv (C1 Pg (C1 (Pl (TB.blk V)) (cC rfl (hF.out _ Af Af) ?_)))))));rintro _ cf ⟨⟨⟩,a9⟩;revert V X O N M G F;refine eY a9 ?_;intro cg V X O N M G F;refine eK ?_;refine C1 (xB [_]) (K8 rfl rfl rfl ?_);intro Z ba an ad;have bb:=an.ext;have ch:=an.pos;have ci:=an.size;revert V X O N M G F;refine eE bb ?_;intro V X O N M G F;refine C1 Pa (cT (Aj (cS (C1 Pf (C1 (Pl (TB.blk V)) (eK ?_))))));obtain ⟨k1,k2,k3,k4,k5,k6⟩:=HA.out ba Z Z X Ab Ab Ab Ab;have am:=gp (λw1 h1 h2 h3=>Tp (κ:=O3 κ st.heap.length Z) st.cur ⟨vn,3,0⟩ st.heap.length fb fo pre post T (.slice av st.cur.vars.length cv) vc (.int .i64 st.cur.locals) w1 h1 h2 k2 h3 Ab Ab);have k3:=gp k3;rw [show JP (O3 κ st.heap.length Z) st.heap.length = .pointer (some ⟨Z,0,none⟩) by unfold JP O3;rw [AQ rfl]] at am
    refine eK ?_;refine A3 [_,_,_] Ac rfl rfl rfl (TB.blk V) rfl rfl rfl (C1 Mv (eQ rfl (am.out _ k1 M k3.out) ?_));rintro _ dd ⟨cj,ck,bc,⟨⟩,ay,bs,bt,bd,az⟩;have cl:=az.size;have ad:=TB.fr ad az (k5);clear V N M G;have F:=iU F az (k4);refine eK ?_;refine Dh Ac rfl rfl rfl (Win.blk bt) rfl rfl (eK ?_);refine A2 (Cn fb fo 2 [_,_,_] Ac rfl rfl rfl rfl rfl rfl Af rfl rfl) (BA ?_);rintro _ be ⟨bf,af,cm⟩;have cn:=af.size;have bd:=FrameOk.fr bd af (λk hk=>by (rw [show k=fb from hk,ay fb Ab];exact k2));have ad:=ad.fr af Ab;have F:=iU F af (λk hk=>gq (gq hk));refine kR ?_;refine aq.out [] (O3 κ st.heap.length Z) bc be _ _ Z (λc hc=>AB hc) (AQ rfl) (λb hb=>?_) (λb hb=>bs b Ab) F bf Af ?_ ⟨_,ad.blk,OwnI.nil,λk hk=>(Option.some_ne_none _ hk.symm).elim⟩
    . rw [ay b Ab];unfold FD;rw [AB Ab,AB Ab]
    . rw [ay _ Ab];exact AQ rfl
end
section
variable {ρ ρ':Nat->Rl} {κ:Nat->Nat} {K:List (Int×Int)} {m sb:Nat} {st:Stp} {w w':wD} {S:nP}
def fZ (ρ:Nat->Rl) (n k:Nat):Prop:= ¬Mi (ρ k)\/ρ k = .vars (n+1)\/ρ k = .cels (n+1)
def StoreAt.moveN (h:StoreAt ρ κ w sb st) (x:Fr S w w') (Y:∀k,S k->fZ ρ st.calls.length k) (N:Ro ρ ρ' w) (O:Fresh ρ' w'):StoreAt ρ' κ w' sb st:=by
 obtain ⟨U,-,⟨Z,bc,cv,tb,cs,V,h3,h4,h5,h6⟩,h7⟩:=h;have X:=V.lt;have M:∀ {r:Rl},Mi r->r≠.vars (st.calls.length+1)->r≠.cels (st.calls.length+1) -> ∀k,S k->ρ k≠r:=λN n1 n2 k G e=>by
  rcases Y k G with h|h|h
  . exact h (by rw [e];exact N)
  . exact n1 (by rw [<-e,h])
  . exact n2 (by rw [<-e,h])
 exact ⟨by rw [N _ X,U],O,⟨Z,bc,cv,tb,cs,V.fr x (λhS=>M (r:=.store) trivial AN AN _ hS U),h3.move x (λk G=>⟨M (by exact trivial) AN AN k G,M (by exact trivial) AN AN k G⟩) N (λ_ _=>rfl),h4.move x (M (by exact trivial) AN AN) N,
  FramesOk.move x N _ _ _ h5 (λk G i U V=>⟨M (by exact trivial) (by simp;omega) AN k G,M (by exact trivial) AN (by simp;omega) k G⟩) (λ_ _ _ _=>rfl),h6.move x (λk G=>⟨M (by exact trivial) AN AN k G,M (by exact trivial) AN AN k G,M (by exact trivial) AN AN k G⟩) N⟩,
  λc xs hc=>(h7 c xs hc).move x (λk G=>⟨M (by exact trivial) AN AN k G,M (by exact trivial) AN AN k G⟩) N rfl⟩
def StoreAt.push (h:StoreAt ρ κ w sb st):∃V X Y O tp cs,Blk w sb [V,X,Y,O,tp]/\Own w 0 229 3 O st.calls.length cs/\(∀k,O.ownBlock=some k->ρ k = .calls) /\
 ∀(ρ':Nat->Rl) (w':wD) (f:Frm) (vv vc M:Value),Ro ρ ρ' w->Fresh ρ' w'->Fr (λk=>k=sb\/O.ownBlock=some k) w w'->Blk w' sb [V,X,Y,M,tp]->Own w' 0 229 3 M (st.calls.length+1) (cs++[vv,vc,.int .i64 f.locals])->(∀k,M.ownBlock=some k->ρ' k = .calls)->FrameOk ρ κ w (st.calls.length+1) f vv vc ->
  StoreAt ρ' κ w' sb { st with calls:=st.calls++[f] }:=by
 obtain ⟨h1,-,⟨V,X,O,tb,cs,h2,h3,Z,h5,h6⟩,h7⟩:=h;have aa:=h2.lt;refine ⟨V,X,_,O,_,cs,h2,Z.1,Z.2,λρ' w' f vv vc M U ab x hb ho hc hf=>?_⟩;have N:∀ {r:Rl},r≠.store->r≠.calls -> ∀k,(k=sb\/O.ownBlock=some k)->ρ k≠r:=λn1 n2 k G e=>by
  rcases G with rfl|G
  . exact n1 (by rw [<-e,h1])
  . exact n2 (by rw [<-e,Z.2 k G])
 refine ⟨by rw [U _ aa,h1],ab,⟨V,X,M,tb,cs++[vv,vc,.int .i64 f.locals],hb,h3.move x (λk G=>⟨N AN AN k G,N AN AN k G⟩) U (λ_ _=>rfl),⟨by simpa using ho,hc⟩,(FramesOk.snoc st.calls 1 f _).2 ⟨cs,vv,vc,rfl,FramesOk.move x U _ _ _ h5 (λk G i _ _=>⟨N AN AN k G,N AN AN k G⟩) (λ_ _ _ _=>rfl),?_⟩,h6.move x (λk G=>⟨N AN AN k G,N AN AN k G,N AN AN k G⟩) U⟩,λc xs hx=>(h7 c xs hx).move x (λk G=>⟨N AN AN k G,N AN AN k G⟩) U rfl⟩;rw [Nat.add_comm];exact hf.move x (λk G=>⟨N AN AN k G,N AN AN k G⟩) U (λ_ _=>rfl)
def I1 {ps:List VD} {G:List lB} {e:Int} (N:ps.length=G.length) (h:(DG st.cur ps G).1=e) (M:e≠0):st.enters ps G=(e,st):=by
 unfold Stp.enters;rw [AB Ab,AQ (by rw [h];exact M),h]
def Own.shape {b e sz:Nat} {v:Value} (h:Own w b e sz v n cs):∃a c,v = .slice a n c:=by
 rcases h.row with ⟨rfl,G,-⟩|⟨g,cap,rfl,-⟩
 . exact ⟨none,0,by rw [G]⟩
 . exact ⟨_,_,rfl⟩
def WQ {e:TypeId} {v:Value} (h:Own w 0 e 1 v n cs) (G:∀k,v.ownBlock=some k->S k):∃a c,v = .slice a n c/\Rows S w cs a:=by
 rcases h.row with ⟨rfl,M,N⟩|⟨g,cap,rfl,-,O,U⟩
 . exact ⟨none,0,by rw [M],gq N⟩
 . exact ⟨_,cap,rfl,gt ⟨g,0,rfl,G g O,U⟩⟩
def Rows.at1 {a:oA} (h:Rows S w cs a) {u:Value} (G:cs[i]? = some u):∃b o,a=some ⟨b,o,none⟩/\S b/\Row w ⟨b,o+i*1,none⟩ [u]:=by
 obtain ⟨b,o,U,V,X⟩:=h.get (by rintro rfl;simp at G);refine ⟨b,o,U,V,?_⟩;have O:=X.sub i 1;rw [Nat.mul_one];have M:i<cs.length:=by
  rcases gK i cs.length with N|N
  . exact N
  . rw [gG N] at G;cases G
 rw [gW M] at O;have:cs[i]=u:=by rw [gm M] at G;exact gB G
 simpa [this] using O
def Zc (hw:st.WF K m) (hm:m<=100000) (ps:List VD) (qs:List (List UInt8)) (dm:ps.length<=100000) (b3:∀k,S k -> ¬Mi (ρ k)) (pa qa:Option Addr) (pc qc:Nat) (w:World) (h:StoreAt ρ κ w sb st) (hp:VDs S w ps pa) (hq:Rows S w (qs.map str) qa) :
 Calls prog 212 #[.pointer (some ⟨sb,0,none⟩),.slice pa ps.length pc,.slice qa qs.length qc] w (StR ρ sb (st.enters ps qs).2 (st.enters ps qs).1 w):=by
 have X:=iK w
 by_cases ai:ps.length≠qs.length
 . have e:st.enters ps qs=(7,st):=by unfold Stp.enters;rw [AQ ai]
   rw [e]
   generalize ps.length=n1 at *
   generalize qs.length=n2 at *
   clear hp hq;refine Ad func212 ntmps212 rfl rfl ?_
   refine eK ?_;refine C1 (A0 Ac rfl rfl) (eK ?_);refine AP rfl rfl ?_
   exact jc Af X
 have ai:ps.length=qs.length:=Decidable.not_not.1 ai;have dn:=hw.nc;have dp:=hw.curm;have ck:=hw.cur;have bt:=h.role;obtain ⟨fb,fo,pre,post,T,vv,vc,bu,a2,N,hf,-⟩:=h.open;have HC:=gp (λw1 h=>Ey fb fo st.calls.length sb Ab w1 h);obtain ⟨av,cv,rfl,O⟩:=GV (S:=λk=>ρ k = .vars st.calls.length/\k<w.heap.size) hf.v.1 (λk M=>⟨hf.v.2 k M,(hf.v.1.blk M).2⟩);obtain ⟨ac,cc,rfl,U⟩:=WQ (S:=λk=>ρ k = .cels st.calls.length/\k<w.heap.size) hf.c.1 (λk M=>⟨hf.c.2 k M,(hf.c.1.blk M).2⟩);have cl:fb<w.heap.size:=N.1.blk.lt;have G:=N.blk;replace hp:VDs (λk=> ¬Mi (ρ k)/\k<w.heap.size) w ps pa:=hp.lt2.wide (λk M=>⟨b3 k M.1,M.2⟩);replace hq:Rows (λk=> ¬Mi (ρ k)/\k<w.heap.size) w (qs.map str) qa:=hq.lt2.wide (λk M=>⟨b3 k M.1,M.2⟩);have HF:=gp (λs w1 h1 h2=>Mo st.cur.vars Ab s (λk=>ρ k = .vars st.calls.length/\k<w.heap.size) av cv (.slice ac st.cur.cells.length cc) (.int .i64 st.cur.locals) fb fo w1 h1 h2);have HS:=gp h;clear h hf N
 generalize hn:st.calls.length=n at *
 have F:=iP (λk=>ρ k = .vars (n+1)\/ρ k = .cels (n+1)) w;refine Ad func212 ntmps212 rfl rfl ?_
 refine eK ?_;refine C1 (A0 Ac rfl rfl) (eK ?_);refine TS Cs rfl rfl ?_;intro V dq a3 a4;have b4:=a3.ext;have dr:=a3.pos;have dt:=a3.size;clear a3;revert G hp hq bu O U F;refine eE b4 ?_;intro G hp hq bu O U F;clear b4;refine kC (HC.out _ Af) ?_;rintro _ c5 ⟨⟨⟩,bw⟩;have c6:=bw.size;revert a4 G hp hq O U F;refine eE bw ?_;intro a4 G hp hq O U F;clear bw;refine C1 Pa (cT (Aj (cS (C1 Mv (C1 Pz (C1 Mv (cT (As ?_))))))))
 have ad:∀(e:Int) (ρ1:Nat->Rl) (w':World),Ro ρ ρ1 w->Fresh ρ1 w'->Fr (λk=>ρ k = .vars (n+1)\/ρ k = .cels (n+1)) w w'->st.enters ps qs=(e,st)->StR ρ sb (st.enters ps qs).2 (st.enters ps qs).1 w (.returned (.int .i64 e)) w':=λe ρ1 w' ab a2 F h=>by
  rw [h]
  exact ⟨ρ1,κ,rfl,ab,HS.out.moveN F (λk M=>by rw [hn];exact gt M) ab a2,F.weaken (λk M=>by rcases M with h|h<;>rw [h]<;>trivial)⟩
 replace ad:=gp ad;clear bu X;refine AG (ι:=Nat) (λj=>[(0,.pointer (some ⟨sb,0,none⟩)),(2,.slice qa qs.length qc),(7,.pointer (some ⟨V,0,none⟩)),(8,.pointer (some ⟨fb,fo,none⟩)),(21,.slice pa ps.length pc),(22,.int .i64 ps.length),(23,.int .i64 j)])
  (λj w'=> ∃(cs:List Nat) (ρj:Nat->Rl) (vv vc:Value),j<=ps.length/\Ro ρ ρj w/\Fresh ρj w'/\Win w' V 0 [vv,vc,.int .i64 0] [] [] 229/\FrameOk ρj κ w' (n+1) ⟨ps.take j,cs,0⟩ vv vc/\Row w' ⟨fb,fo,none⟩ [.slice av st.cur.vars.length cv,.slice ac st.cur.cells.length cc,.int .i64 st.cur.locals] /\
   VDs (λk=>ρ k = .vars n/\k<w.heap.size) w' st.cur.vars av/\Rows (λk=>ρ k = .cels n/\k<w.heap.size) w' (st.cur.cells.map (JP κ)) ac/\VDs (λk=> ¬Mi (ρ k)/\k<w.heap.size) w' ps pa/\Rows (λk=> ¬Mi (ρ k)/\k<w.heap.size) w' (qs.map str) qa /\
   Fr (λk=>ρ k = .vars (n+1)\/ρ k = .cels (n+1)) w w'/\V<w'.heap.size/\ρj V = .none/\DG st.cur ps qs=((DG st.cur (ps.drop j) (qs.drop j)).1,cs++(DG st.cur (ps.drop j) (qs.drop j)).2)/\cs.length=j)
  (λj=>ps.length-j) 0 sB
  ⟨[],ρ,.slice none 0 0,.slice none 0 0,gC _,Ro.refl _ _,λb hb=>HS.out.fresh b Ab,⟨a4,rfl⟩,⟨⟨Own.nil,λk M=>(Option.some_ne_none _ M.symm).elim⟩,Own.nil,λk M=>(Option.some_ne_none _ M.symm).elim⟩,G,O,U,hp,hq,F,Ab,HS.out.fresh V Ab,AN,rfl⟩ ?_
 clear a4 G O U hp hq F;rintro j w1 ⟨cs,ρj,cm,cn,hj,ab,bg,N,Y,G,O,U,hp,hq,F,du,bx,hb,cp⟩;have aj:=gp bg;have cq:=F.size;clear bg
 by_cases aw:j<ps.length
 . obtain ⟨pb,po,rfl,dv,bh⟩:=hp.get (by intro e;rw [e] at aw;simp at aw);have r0:=bh j ps[j] (gm aw);obtain ⟨qb,qo,rfl,dw,r1⟩:=hq.at1 (i:=j) (u:=str qs[j]) (by rw [gV,gm Ab];rfl)
   have cr:ps.take (j+1)=ps.take j++[ps[j]]:=by rw [List.take_add_one,gm aw];rfl
   rw [gW aw,gW (by omega:j<qs.length),DG] at hb
   have dx:(ps.take j).length=j:=by simp;omega
   clear bh
   generalize ps[j]=v at *
   generalize qs[j]=s at *
   obtain ⟨vn,vk,vl⟩:=v;replace r0:Row w1 ⟨pb,po+j*3,none⟩ [str vn,.int .u8 vk,.int .i64 vl]:=r0;have ak:=HF.out s
   cases hl:Ct s st.cur.vars with
   | none=>
    rw [hl] at hb;simp only at hb;rw [show CE st.cur.vars s = -1 by unfold CE;rw [hl]] at ak;replace ak:=gp ak;have he:=I1 (st:=st) (e:=6) ai (by rw [hb]) CH
    refine eK ?_;refine eA [_,_,_] ?_;intro dy dz b5 b6 d0 d5;revert G O F r1;refine eE b6 ?_;intro G O F r1;clear b6;refine C1 Pa (eS [_,_,_] b5 ?_);intro d6 _ bi c7;clear b5 Y;revert G O F r1;refine eF bi ?_;intro G O F r1;clear bi;refine kC (ak.out _ Af Af) ?_;rintro _ c8 ⟨⟨⟩,ax⟩;have c9:=ax.size;replace F:=F.ext ax;clear ax;refine eK ?_;refine AP rfl rfl ?_
    exact ad.out 6 ρj _ ab (λb hb=>aj.out b Ab) F he
   | some i=>
    obtain ⟨u,hu,-⟩:=Fy hl
    have ct:i<st.cur.cells.length:=by rw [<-ck.len];exact Gq hl
    have hc:=gm ct;rw [hl] at hb;simp only at hb;rw [show st.cur.vars.getD i ⟨[],0,0⟩=u by rw [gY,hu];rfl,show st.cur.cells.getD i 0=st.cur.cells[i] by rw [gY,hc];rfl] at hb;rw [show CE st.cur.vars s=(i:Int) by unfold CE;rw [hl]] at ak;replace ak:=gp ak;obtain ⟨vb,vo,rfl,d7,b7⟩:=O.get (by intro e;rw [e] at hu;simp at hu);have r2:=b7 i u hu;obtain ⟨cb,co,rfl,d8,r3⟩:=U.at1 (i:=i) (u:=JP κ st.cur.cells[i]) (by rw [gV,hc];rfl);have d9:=Gq hl;obtain ⟨un,uk,ul⟩:=u;replace r2:Row w1 ⟨vb,vo+i*3,none⟩ [str un,.int .u8 uk,.int .i64 ul]:=r2
    generalize st.cur.cells[i]=c at *
    unfold JP at r3
    clear b7 hu hc;dsimp only at hb
    have a5:∀b,b<w.heap.size->ρ b≠.vars (n+1)->ρ b≠.cels (n+1) -> ¬Fa ρj (n+1) V b:=λb h1 h2 h3 M=>by
     rcases M with rfl|M|M
     . omega
     . rw [ab b h1] at M
       exact h2 M
     . rw [ab b h1] at M
       exact h3 M
    have s1:∀k,Fa ρj (n+1) V k->(ρ k = .vars (n+1)\/ρ k = .cels (n+1))\/w.heap.size<=k:=λk M=>by
     rcases gK k w.heap.size with h|h
     . rcases M with rfl|M|M
       . omega
       . rw [ab k h] at M
         exact gq (gq M)
       . rw [ab k h] at M
         exact gq (gt M)
     . exact gt h
    have s2:¬Fa ρj (n+1) V fb:=a5 fb cl (by rcases a2 with h|h<;>rw [h]<;>simp) (by rcases a2 with h|h<;>rw [h]<;>simp)
    have s3:∀b,(ρ b = .vars n/\b<w.heap.size) -> ¬Fa ρj (n+1) V b:=λb h=>a5 b h.2 (by rw [h.1];simp) (by rw [h.1];simp)
    have s4:∀b,(ρ b = .cels n/\b<w.heap.size) -> ¬Fa ρj (n+1) V b:=λb h=>a5 b h.2 (by rw [h.1];simp) (by rw [h.1];simp)
    have s5:∀b,(¬Mi (ρ b)/\b<w.heap.size) -> ¬Fa ρj (n+1) V b:=λb h=>a5 b h.2 (λe=>h.1 (by rw [e];trivial)) (λe=>h.1 (by rw [e];trivial))
    have cu:ρj V≠.vars (n+1)/\ρj V≠.cels (n+1):=by rw [bx];exact ⟨AN,AN⟩
    have b8:=gp (λw2 h1 h2 h3=>Tp (κ:=κ) (j:=n+1) ⟨ps.take j,cs,0⟩ ⟨vn,vk,vl⟩ c V 0 [] [] 229 cm cn (.int .i64 0) w2 h1 h2 cu h3 (by simp only;omega) (by simp only;omega))
    unfold JP VD.val at b8
    refine eK ?_;refine eA [_,_,_] ?_;intro ea eb b9 ca ec ed;revert N Y F hp hq r1 O U G r2 r3;refine eE ca ?_;intro N Y F hp hq r1 O U G r2 r3;clear ca;refine C1 Pa (eS [_,_,_] b9 ?_);intro ee ae ap da;clear b9;replace N:=N.fr ap Ab;replace Y:=FrameOk.fr Y ap (λk M=>by (rw [show k=_ from M,aj.out _ Ab];exact ⟨AN,AN⟩));revert F hp hq r1 O U G r2 r3;refine eF ap ?_;intro F hp hq r1 O U G r2 r3;clear ap;refine kC (ak.out _ Af Af) ?_;rintro _ aq ⟨⟨⟩,ay⟩;have db:=ay.size;revert ae N Y F hp hq O U G r2 r3;refine eE ay ?_;intro ae N Y F hp hq O U G r2 r3;clear ay;refine C1 Pa (cT (Aj (cS (C1 Mv (C1 V3 (cT (C6 (Ao (Ai (Aj ?_))))))))))
    by_cases a6:uk=vk
    . have cw:¬uk≠vk:=λh=>h a6
      focus
       refine Aj (Aq (λwz=>Ext aq wz) 22 (.pure 0 (.pure 1 (.pure 2 (.pure 3 (.pure 4 (.pure 5 (.pure 6 (.pure 7 (.pure 8 (.pure 9 (.pure 10 (.pure 11 (.pure 12 (.pure 13 (.pure 14 (.pure 15 (.pure 16 (.pure 17 (.pure 18 (.pure 19 (.pure 20 (.pure 21 .tail)))))))))))))))))))))) mixed AT (Aa (Aa (Ae (Aa (Aa (Ae (Aa Ag))))))) ?_);intro bz a7 _;have bj:(λwz=>Ext aq wz) bz:=a7;simp only at bj;have ah:=ae;have Z:=G;have ar:=r2;have ef:=a7.size;revert ae N Y F hp hq O U G r3;refine eE a7 ?_;intro ae N Y F hp hq O U G r3;clear a7;refine ⟨bj,?_⟩;refine eT ?_;refine Tq rfl (Ap Ac rfl rfl rfl (λwz hz=>iT (iO Z hz) rfl)) (eT ?_);refine Tq rfl (Dr ar) (eT ?_);refine Kw rfl rfl rfl rfl (Gd Af) (Ap Ac rfl rfl rfl (λwz hz=>iT (iO Z hz) rfl)) rfl (Kw rfl rfl rfl rfl (Gd Af) (Ar rfl) rfl (Kw rfl rfl rfl rfl (Gd Af) (AC Ac rfl rfl rfl rfl Ab Ab) rfl (Kw rfl rfl rfl rfl (Gd Af) (AZ Ac rfl rfl rfl) rfl (Kw rfl rfl rfl rfl (Gd Af) (Ap Ac rfl rfl rfl (λwz hz=>Row.at (iO ar hz) rfl)) rfl (Kw rfl rfl rfl rfl (Gd Af) (AZ Ac rfl rfl rfl) rfl (Kw rfl rfl rfl rfl (Gd Af) (Ap Ac rfl rfl rfl (λwz hz=>iV (iW ah hz) rfl)) rfl (At rfl ?_)))))))
       refine eK ?_;refine BN rfl (λcx=>?_) (λcx=>?_);refine eK ?_;refine AP rfl rfl ?_;rotate_left;refine eK ?_;refine Aq (λwz=>Ext bz wz) 8 (.pure 0 (.pure 1 (.pure 2 (.pure 3 (.pure 4 (.pure 5 (.pure 6 (.pure 7 .tail)))))))) mixed AT (Ae (Aa (Aa (Ae (Aa Ag))))) ?_;intro cy a8 _;have bk:(λwz=>Ext bz wz) cy:=a8;simp only at bk;have ah:=ae;have Z:=G;have cd:=r3;have eg:=a8.size;revert N Y F hp hq O U G;refine eE a8 ?_;intro N Y F hp hq O U G;clear a8;refine ⟨bk,?_⟩;refine Tq rfl (BP [_,_,_] Ac rfl rfl rfl (λwz hz=>(iW ah hz)) rfl rfl) (eT ?_);refine Tq rfl (Dr Z) (Tq rfl Mv (Tq rfl Pi (Tq rfl (Ap Ac rfl rfl rfl (λwz hz=>iT (iO cd hz) rfl)) (At rfl (eQ rfl (b8.out _ Af Af (λb hb=>aj.out b Ab)) ?_)))));rintro _ dc ⟨b0,b1,b2,⟨⟩,bl,dd,de,df,af⟩;have dg:=af.size;clear ae N Y;replace F:=iU F af (s1);replace hp:=jm hp af (s5);replace hq:=Rows.fr hq af (s5);clear r1 r0;replace O:=jm O af (s3);replace U:=Rows.fr U af (s4);replace G:=i8 G af (s2);clear r2 r3 af;refine Ak (Ah (Ai (Al (C1 V7 (C1 Mv (Ak ?_))))));rotate_left
      . exact ad.out 7 ρj _ ab (λb hb=>aj.out b Ab) F (I1 (st:=st) (e:=7) ai (by rw [hb,AQ (gt Af)]) CH)
      . refine Aw (j+1) sB ⟨cs++[c],b2,b0,b1,Ab,ab.trans bl Ab,Af,Af,by rw [cr];assumption,Af,Af,Af,Af,Af,Af,Ab,?_,?_,by simp [cp]⟩ Ab
        . rw [bl V Ab,bx]
        . rw [hb,AB (λh=>by rcases h with h|h;exact h a6;exact absurd h (Decidable.not_not.2 Af))]
          simp
    . have cw:uk≠vk:=a6;have he:=I1 (st:=st) (e:=7) ai (by rw [hb,AQ (gq a6)]) CH
      refine Aj (Aq (λwz=>Ext aq wz) 22 (.pure 0 (.pure 1 (.pure 2 (.pure 3 (.pure 4 (.pure 5 (.pure 6 (.pure 7 (.pure 8 (.pure 9 (.pure 10 (.pure 11 (.pure 12 (.pure 13 (.pure 14 (.pure 15 (.pure 16 (.pure 17 (.pure 18 (.pure 19 (.pure 20 (.pure 21 .tail)))))))))))))))))))))) mixed AT (Aa (Aa (Ae (Aa (Aa (Ae (Aa Ag))))))) ?_);intro cz a9 _;have bm:(λwz=>Ext aq wz) cz:=a9;simp only at bm;have ah:=ae;have Z:=G;have ar:=r2;have eh:=a9.size;replace F:=F.ext a9;clear a9;refine ⟨bm,?_⟩;refine eT ?_;refine Tq rfl (Ap Ac rfl rfl rfl (λwz hz=>iT (iO Z hz) rfl)) (eT ?_);refine Tq rfl (Dr ar) (eT ?_);refine At rfl (eK ?_);refine AP rfl rfl ?_
      exact ad.out 7 ρj _ ab (λb hb=>aj.out b Ab) F he
 . obtain rfl:j=ps.length:=by omega
   have hS:=HS.out.moveN F (λk M=>by rw [hn];exact gt M) ab aj.out
   have ce:DG st.cur ps qs=(0,cs):=by
    rw [hb,List.drop_length]
    simp [DG]
   have c0:ρj sb = .store:=hS.role;obtain ⟨bv,bc,ei,ej,tp,ds,aa,al,ba,cf⟩:=hS.push;rw [hn] at al;rw [gF] at Y;obtain ⟨an,ao,rfl⟩:=al.shape;obtain ⟨xa,xc,rfl⟩:=Y.v.1.shape;obtain ⟨ya,yc,rfl⟩:=Y.c.1.shape
   have he:st.enters ps qs=if 100<=n then (19,st) else (0,{ st with calls:=st.calls++[⟨ps,cs,0⟩] }):=by
    unfold Stp.enters
    rw [AB Ab,AB (by rw [ce];exact λh=>h rfl),hn,ce]
   by_cases bn:100<=n
   . rw [AQ bn] at he
     refine eK ?_;refine AP rfl rfl ?_
     exact ad.out 19 ρj _ ab (λb hb=>aj.out b Ab) F he
   . rw [AB bn] at he;rw [he];have F2:=iP (λk=>k=sb\/(gN an n ao).ownBlock=some k) w1;have c1:=gp cf;have F1:=gp F;have ek:=aa.lt;have c2:=gp Y
     have d1:∀k,(gN an n ao).ownBlock=some k -> ¬k=sb:=λk M e=>by subst e;have:=ba k M;rw [c0] at this;cases this
     have d2:¬(gN an n ao).ownBlock=some sb:=λh=>d1 sb h rfl
     have d3:¬(gN an n ao).ownBlock=some V:=λh=>by have:=ba V h;rw [bx] at this;cases this
     have d4:∀k,(gN an n ao).ownBlock=some k->k<w1.heap.size:=λk M=>(al.blk M).2
     clear hS Y O U hp hq G
     refine eK ?_;refine Aq (λwz=>Fr ((λk=>(gN an n ao).ownBlock=some k)) w1 wz) 8 (.pure 0 (.pure 1 (.pure 2 (.pure 3 (.pure 4 (.pure 5 (.fork 6 (.fork 7 .tail .none) .none))))))) mixed AT (Aa Ag) ?_;intro c3 bb _;have ag:(λwz=>Fr ((λk=>(gN an n ao).ownBlock=some k)) w1 wz) c3:=iM bb;simp only at ag;have bd:=aa;have be:=N;have el:=bb.size;revert aa al F2;refine eE bb ?_;intro aa al F2;clear bb;refine ⟨ag,?_⟩;refine eT ?_;refine Tq rfl (Ap Ac rfl rfl rfl (λwz hz=>iV (iN bd hz (by first|omega|(dsimp only;omega))) rfl)) (Tq rfl (BE Ac rfl rfl rfl (λwz hz=>(i8 (Win.blk be) hz (by first|omega|(dsimp only;omega)))) rfl) ?_);refine AE rfl (C2 [_,_,_] Ac Cs rfl rfl rfl rfl rfl rfl rfl rfl rfl) rfl ?_ aFh AD;rintro _ bf ⟨em,rfl,az,c4⟩;clear c4;have bo:=az.blk;dsimp only at bo;have bp:=az.ext;have dh:=az.pos;have di:=az.size;clear az;revert ag aa al F2;refine eE bp ?_;intro ag aa al F2;clear bp;refine ⟨ag,?_⟩;refine AE rfl (Fb Ac Cs rfl rfl rfl rfl AT rfl rfl rfl Af (Blk.row Af) rfl rfl Ab Ab (gC _)) rfl ?_ aFh AD;rintro _ au ⟨bq,cj,rfl,br,am,bs,cg⟩;have dk:=am.size
     clear bo;replace ag:=iU ag am (λk M=>gq M);replace aa:=iN aa am (d2);clear al;replace F2:=iU F2 am (λk M=>gq (gt M));clear am;refine ⟨ag,?_⟩;refine At rfl (eK ?_);refine eV [_] [_,_,_,_,_] aa ?_;intro ch ci a0 dl;clear aa;replace br:=ja br a0 (λk M hS=>by (obtain rfl:=gB (show some bq=some k from M);rcases bs with h|h;exact d1 _ h hS;omega));clear N;replace F2:=iU F2 a0 (λk M=>gq (gq M));clear a0;refine eK ?_;refine AP rfl rfl ?_
     have a1:Ro ρj (U0 ρj bf au .calls) w1:=λb hb=>WO ρj bf au .calls b Ab
     refine ⟨U0 ρj bf au .calls,κ,rfl,ab.trans a1 cq,c1.out _ ch ⟨ps,cs,0⟩ _ _ _ a1 (λb hb=>NK (w:=bf) (w':=au) (λb hb=>aj.out b Ab) Ab b Ab) F2 ci (by rw [hn];assumption) (λk M=>?_) (by rw [hn];exact c2.out),(F1.out.weaken (T:=λk=>Mi (ρ k)) (λk M=>by rcases M with h|h<;>rw [h]<;>trivial)).fr F2 (λk M=>?_)⟩
     . obtain rfl:=gB (show some bq=some k from M)
       rcases bs with h|h
       . have:=d4 _ h;rw [a1 _ this]
         exact ba _ h
       . exact To ρj .calls h cg
     . rcases M with rfl|M
       . left;rw [bt];trivial
       . rcases gK k w.heap.size with h|h
         . left;rw [<-ab k h,ba k M];trivial
         . exact gt h
end
def QK (xs:List Int) (zs:lV) (i:Nat) (u:Int) (h:i<xs.length):A8 (AX xs++zs) i [.int .i64 u]=AX (xs.set i u)++zs:=by
 simp only [A8];rw [List.set_append_left _ _ (by simpa [AX] using h)];simp [AX,List.map_set]
def Cd {P:Program} {m:Nat} {l:Sl} {tab:Tab} {ty:TypeId} {w:wD} {x y:Operand} {t cap:Nat} {s:Sk} (TT:TabOk P tab) (ht:Az tab t=some (s,1)) (hx:ev l x=some (.pointer (some ⟨g,0+i*1,none⟩))) (hy:ev l y=some (.int .i64 u))
 (ho:OwnI w 0 (.slice (some ⟨g,0,none⟩) n cap) xs) (hi:i<xs.length) :
 BD P m l (.store t x y) ty w (FY λw'=>OwnI w' 0 (.slice (some ⟨g,0,none⟩) n cap) (xs.set i u)/\Fr (· = g) w w'/\w'.heap.size=w.heap.size):=by
 unfold BD;intro a dst pos after g' next Q ha _ hn;rcases ho.open with ⟨h1,-⟩|⟨g0,b,zs,h1,h2,h3,h4,h5⟩
 . cases h1
 simp only [gR,gy,Addr.mk.injEq,and_true] at h1;obtain ⟨rfl,rfl,rfl⟩:=h1;rw [iu,Nat.mul_one] at hx;obtain ⟨w1,e1,e2,e3⟩:=EV (P:=P) [.int .i64 u] w g i 0 (AX xs++zs) h3 (by simp [AX];omega) (by rfl);have e:(execOp a.eval ⟨dst,.store t x y,ty,pos,after,g'⟩).run P w = .ok .skip w1:=by
  have hcs:(ii .i64 u).cells.toList=[.int .i64 u]:=rfl;have hsz:(ii .i64 u).cells.size=1:=rfl;simp only [execOp,ha.ev hx,ha.ev hy,Instr.storeAt,Instr.sureAddr,gE,gP,gw,storeVar,B3 (TT _ _ _ ht),hsz,hcs];simp only [ne_eq,not_true,if_false,e1]
 unfold iB;rw [e];rw [Nat.add_zero,QK xs zs i u hi] at e3;have hl:(xs.set i u).length=xs.length:=List.length_set;refine hn _ ⟨?_,e2.fr,e2.size⟩;have:=OwnI.mk (gC _) e3 (by rw [hl];omega);rw [hl,h4] at this;exact this
section
variable {ρ ρ':Nat->Rl} {κ:Nat->Nat} {K:List (Int×Int)} {m sb:Nat} {st:Stp} {w w':wD} {S:nP}
def StoreAt.setCell (h:StoreAt ρ κ w sb st) {ys:List Int} (x:Fr (λk=>ρ k = .cell c\/ρ k = .items c) w w') (O:Ro ρ ρ' w) (V:Fresh ρ' w') (hc:CellAt ρ' κ w' c ys):StoreAt ρ' κ w' sb (st.all c ys):=by
 obtain ⟨Y,-,⟨bv,bc,cv,tb,cs,Z,h3,h4,h5,h6⟩,h7⟩:=h;have X:=Z.lt;have M:∀ {r:Rl},r≠.cell c->r≠.items c -> ∀k,(ρ k = .cell c\/ρ k = .items c)->ρ k≠r:=λn1 n2 k G e=>by
  rcases G with h|h
  . exact n1 (by rw [<-e,h])
  . exact n2 (by rw [<-e,h])
 refine ⟨by rw [O _ X,Y],V,⟨bv,bc,cv,tb,cs,Z.fr x (λhS=>M (r:=.store) AN AN _ hS Y),h3.move x (λk G=>⟨M AN AN k G,M AN AN k G⟩) O (λ_ _=>rfl),h4.move x (M AN AN) O,FramesOk.move x O _ _ _ h5 (λk G i _ _=>⟨M AN AN k G,M AN AN k G⟩) (λ_ _ _ _=>rfl),h6.move x (λk G=>⟨M AN AN k G,M AN AN k G,M AN AN k G⟩) O⟩,λd xs N=>?_⟩;by_cases U:d=c
 . subst U;unfold Stp.all at N;simp only [List.getElem?_set_self'] at N;cases hh:st.heap[d]? with
   | none=>rw [hh] at N;cases N
   | some q=>
    rw [hh] at N;simp only [Option.map_eq_map,Option.map_some,Function.const,gy] at N;subst N;exact hc
 . unfold Stp.all at N;simp only at N;rw [iF (Ne.symm U)] at N;exact (h7 d xs N).move x (λk G=>⟨M (by simp [U]) AN k G,M AN (by simp [U]) k G⟩) O rfl
def StoreAt.set2 (h:StoreAt ρ κ w sb st) (ac:c≠d) {ys:List Int} (x:Fr (λk=>(ρ k = .cell c\/ρ k = .items c)\/ρ k = .cell d\/ρ k = .items d) w w') (O:Ro ρ ρ' w) (aa:Fresh ρ' w') (hc:CellAt ρ' κ w' c xs) (hd:CellAt ρ' κ w' d ys):StoreAt ρ' κ w' sb ((st.all c xs).all d ys):=by
 obtain ⟨U,-,⟨bv,bc,cv,tb,cs,V,h3,h4,h5,h6⟩,h7⟩:=h;have ab:=V.lt;have N:∀ {r:Rl},r≠.cell c->r≠.items c->r≠.cell d->r≠.items d -> ∀k,((ρ k = .cell c\/ρ k = .items c)\/ρ k = .cell d\/ρ k = .items d)->ρ k≠r:=λY Z n3 n4 k M e=>by
  rcases M with (h|h)|h|h
  . exact Y (by rw [<-e,h])
  . exact Z (by rw [<-e,h])
  . exact n3 (by rw [<-e,h])
  . exact n4 (by rw [<-e,h])
 have X:∀(e:Nat) (zs:List Int),((st.heap.set c xs).set d ys)[e]? = some zs->(e=d/\zs=ys)\/(e=c/\zs=xs)\/(e≠c/\e≠d/\st.heap[e]? = some zs):=λe zs G=>by
  rcases Decidable.em (e=d) with rfl|U
  . left;simp only [List.getElem?_set_self'] at G;cases hh:(st.heap.set c xs)[e]? with
    | none=>rw [hh] at G;cases G
    | some q=>
     rw [hh] at G;simp only [Option.map_eq_map,Option.map_some,Function.const,gy] at G;exact ⟨rfl,G.symm⟩
  . rw [iF (Ne.symm U)] at G;rcases Decidable.em (e=c) with rfl|V
    . right;left;simp only [List.getElem?_set_self'] at G;cases hh:st.heap[e]? with
      | none=>rw [hh] at G;cases G
      | some q=>
       rw [hh] at G;simp only [Option.map_eq_map,Option.map_some,Function.const,gy] at G;exact ⟨rfl,G.symm⟩
    . rw [iF (Ne.symm V)] at G;exact gt (gt ⟨V,U,G⟩)
 refine ⟨by rw [O _ ab,U],aa,⟨bv,bc,cv,tb,cs,V.fr x (λhS=>N (r:=.store) AN AN AN AN _ hS U),h3.move x (λk M=>⟨N AN AN AN AN k M,N AN AN AN AN k M⟩) O (λ_ _=>rfl),h4.move x (N AN AN AN AN) O,FramesOk.move x O _ _ _ h5 (λk M i _ _=>⟨N AN AN AN AN k M,N AN AN AN AN k M⟩) (λ_ _ _ _=>rfl),h6.move x (λk M=>⟨N AN AN AN AN k M,N AN AN AN AN k M,N AN AN AN AN k M⟩) O⟩,λe zs hx=>?_⟩;rcases X e zs hx with ⟨rfl,rfl⟩|⟨rfl,rfl⟩|⟨Y,Z,G⟩
 . exact hd
 . exact hc
 . exact (h7 e zs G).move x (λk M=>⟨N (by simp [Y]) AN (by simp [Z]) AN k M,N AN (by simp [Y]) AN (by simp [Z]) k M⟩) O rfl
def StoreAt.putI (h:StoreAt ρ κ w sb st) {cap:Nat} {ys:List Int} (G:ρ (κ c) = .cell c) (M:ρ g = .items c) (O:Blk w (κ c) [.slice (some ⟨g,0,none⟩) n cap]) (x:Fr (· = g) w w') (U:OwnI w' 0 (.slice (some ⟨g,0,none⟩) n cap) ys):StoreAt ρ κ w' sb (st.all c ys):=
 h.setCell (x.weaken (λk N=>gt (by rw [show k=g from N];exact M))) (Ro.refl _ _) (h.fresh.mv x) ⟨G,_,O.fr x (λe=>by rw [show κ c=g from e,M] at G;cases G),U,λk N=>by obtain rfl:=gB (show some g=some k from N);exact M⟩
def StoreAt.openT (h:StoreAt ρ κ w sb st):∃V X Z Y tb,Blk w sb [V,X,Z,Y,.pointer (some ⟨tb,0,none⟩)]/\TapeAt ρ w tb st.tin st.tout /\
 ∀(ρ':Nat->Rl) (w':wD) (ti to:List Int),Ro ρ ρ' w->Fr (BR ρ) w w'->TapeAt ρ' w' tb ti to -> ∃U,Ro ρ' U w'/\StoreAt U κ w' sb { st with tin:=ti,tout:=to }:=by
 obtain ⟨h1,hf,⟨V,X,Y,tb,cs,h2,h3,h4,h5,h6⟩,h7⟩:=h;have aa:=h2.lt;refine ⟨V,X,_,Y,tb,h2,h6,λρ' w' ti to hr x ht=>⟨λb=>if b<w'.heap.size then ρ' b else .none,λb O=>AQ O,?_⟩⟩;have hs:=x.size;have G:Ro ρ (λb=>if b<w'.heap.size then ρ' b else .none) w:=λb O=>by
  simp only;rw [AQ Ab];exact hr b O
 have N:∀ {r:Rl},r≠.tape->r≠.tin->r≠.tout -> ∀k,BR ρ k->ρ k≠r:=λn1 n2 n3 k M e=>by
  rcases M with h|h|h
  . exact n1 (by rw [<-e,h])
  . exact n2 (by rw [<-e,h])
  . exact n3 (by rw [<-e,h])
 exact ⟨(G _ aa).trans h1,λb O=>AB Ab,⟨V,X,Y,tb,cs,h2.fr x (λhS=>N (r:=.store) AN AN AN _ hS h1),h3.move x (λk M=>⟨N AN AN AN k M,N AN AN AN k M⟩) G (λ_ _=>rfl),h4.move x (N AN AN AN) G,FramesOk.move x G _ _ _ h5 (λk M i _ _=>⟨N AN AN AN k M,N AN AN AN k M⟩) (λ_ _ _ _=>rfl),
  ht.ro (λb O=>AQ O) (gI _)⟩,λc xs hx=>(h7 c xs hx).move x (λk M=>⟨N AN AN AN k M,N AN AN AN k M⟩) G rfl⟩
structure PlaceAt (ρ:Nat->Rl) (κ:Nat->Nat) (w:wD) (c g n cap:Nat) (xs:List Int):Prop where
 hrc:ρ (κ c) = .cell c
 hrg:ρ g = .items c
 hb:Blk w (κ c) [.slice (some ⟨g,0,none⟩) n cap]
 ho:OwnI w 0 (.slice (some ⟨g,0,none⟩) n cap) xs
def PlaceAt.ext {c g n cap:Nat} {xs:List Int} (h:PlaceAt ρ κ w c g n cap xs) (x:Ext w w'):PlaceAt ρ κ w' c g n cap xs:=⟨h.hrc,h.hrg,h.hb.ext x,h.ho.ext x⟩
instance {cap:Nat}:LfE w w' (PlaceAt ρ κ w c g n cap xs) (PlaceAt ρ κ w' c g n cap xs):=⟨λx h=>Bk.PlaceAt.ext h x⟩
def PlaceAt.fr {c g n cap:Nat} {xs:List Int} (h:PlaceAt ρ κ w c g n cap xs) (x:Fr S w w') (G:∀k,S k->ρ k≠.cell c/\ρ k≠.items c):PlaceAt ρ κ w' c g n cap xs:=
 ⟨h.hrc,h.hrg,h.hb.fr x (λe=>(G _ e).1 h.hrc),h.ho.fr x (λk M N=>by obtain rfl:=gB (show some g=some k from M);exact (G _ N).2 h.hrg)⟩
instance {cap:Nat}:LfF S w w' (PlaceAt ρ κ w c g n cap xs) (∀k,S k->ρ k≠.cell c/\ρ k≠.items c) (PlaceAt ρ κ w' c g n cap xs):=⟨λx s h=>Bk.PlaceAt.fr h x s⟩
def PlaceAt.row {cap:Nat} (h:PlaceAt ρ κ w c g n cap xs) (M:i<xs.length):Row w ⟨g,0+i*1,none⟩ [.int .i64 (xs.getD i 0)]:=by
 rcases h.ho.at with G|⟨b,o,G,-,N⟩
 . have:xs=[]:=List.map_eq_nil_iff.1 G;subst this;simp at M
 . simp only [gy,Addr.mk.injEq,and_true] at G;obtain ⟨rfl,rfl⟩:=G;exact IntsAt.at N M
def PlaceAt.lt {c g n cap:Nat} {xs:List Int} (h:PlaceAt ρ κ w c g n cap xs):g<w.heap.size:=(h.ho.lt (k:=g) rfl).2
def aT (hw:st.WF K m) {cap:Nat} (hd:d<st.heap.length) (af:c≠d) (bl:(st.items d).length<=1000) (hi:i<(st.items c).length) (k:Int) (G:k=44\/k=45) (w:wD) (h:StoreAt ρ κ w sb st) (O:PlaceAt ρ κ w c g n cap (st.items c)) :
 Calls prog 227 #[.int .u8 k,.pointer (some ⟨g,0+i*1,none⟩),.pointer (some ⟨κ d,0,none⟩)] w (StR ρ sb (st.move k c i d).2 (st.move k c i d).1 w):=by
 have X:=iK w;have ba:=O.row hi;obtain ⟨Y,vd,N,ac,U⟩:=h.cells _ _ (Ez hd);obtain ⟨ad,cd,rfl⟩:=ac.shape;have az:=O.lt;rcases G with rfl|rfl
 . by_cases hf:1000<=(st.items d).length
   . have e:st.move 44 c i d=(5,st):=by unfold Stp.move;rw [AQ rfl,AQ hf]
     rw [e];generalize (st.items d).length=dn at *;generalize κ d=db at *;clear O;refine Ad func227 ntmps227 rfl rfl (kR ?_);exact jc Af X
   . have e:st.move 44 c i d=(0,(st.all d (st.items d++[(st.items c).getD i 0])).put c i 0):=by unfold Stp.move;rw [AQ rfl,AB hf]
     rw [e];have M:Own w 0 3 1 (.slice ad (st.items d).length cd) (st.items d).length (AX (st.items d)):=ac;have F:=iP (λk=>ρ k = .cell d\/ρ k = .items d) w;have q1:∀k,(gN ad (st.items d).length cd).ownBlock=some k -> ¬k=κ d:=λk G e=>by have:=U k G;rw [e,Y] at this;cases this
     have q2:∀k,(gN ad (st.items d).length cd).ownBlock=some k -> ¬k=g:=λk G e=>by have:=U k G;rw [e,O.hrg] at this;simp at this;exact af this
     have q3:∀k,(gN ad (st.items d).length cd).ownBlock=some k->ρ k≠.cell c/\ρ k≠.items c:=λk G=>by rw [U k G];exact ⟨AN,by simp;omega⟩
     have q4:∀k,k=κ d->ρ k≠.cell c/\ρ k≠.items c:=λk G=>by rw [G,Y];exact ⟨by simp;omega,AN⟩
     have q5:∀k,(gN ad (st.items d).length cd).ownBlock=some k->k<w.heap.size:=λk G=>(M.blk G).2
     have a0:=N.lt;have HS:=gp h;clear h ac;refine Ad func227 ntmps227 rfl rfl (eK ?_);refine Aq (λwz=>Fr ((λk=>(gN ad (st.items d).length cd).ownBlock=some k)) w wz) 10 (.pure 0 (.pure 1 (.pure 2 (.pure 3 (.pure 4 (.pure 5 (.pure 6 (.pure 7 (.fork 8 (.fork 9 .tail .none) .none))))))))) mixed AT (Aa (Ae (Aa Ag))) ?_;intro bb a1 _;have V:(λwz=>Fr ((λk=>(gN ad (st.items d).length cd).ownBlock=some k)) w wz) bb:=iM a1;simp only at V;have ar:=ba;have au:=N;revert O N M F;refine eY a1 ?_;intro bm O N M F;refine ⟨V,?_⟩;refine eT ?_;refine Tq rfl (Ap Ac rfl rfl rfl (λwz hz=>iV (iN au hz (λh=>q1 _ h rfl)) rfl)) (Tq rfl Mv (Tq rfl Pn (Tq rfl (Ap Ac rfl rfl rfl (λwz hz=>iT (i8 ar hz (λh=>q2 _ h rfl)) rfl)) (AE rfl (xS [_]) rfl ?_ aFh AD))));rintro _ ag ⟨bn,rfl,al,bo⟩;have bg:=al.blk;have a2:=al.ext;have bh:=al.pos;have bi:=al.size;revert V O N M F;refine eE a2 ?_;intro V O N M F;refine ⟨V,?_⟩;refine AE rfl (Fb Ac Cs rfl rfl rfl rfl AT rfl rfl rfl Af (Blk.row Af) rfl rfl Ab Ab (gC _)) rfl ?_ aFh AD;rintro _ Z ⟨ah,am,rfl,ap,aa,aq,a3⟩;have bj:=aa.size;have V:=iU V aa (λk G=>gq G);have O:=PlaceAt.fr O aa (q3);have N:=iN N aa (λh=>q1 _ h rfl);clear M;have F:=iU F aa (λk G=>gq (gt (U k G)));refine ⟨V,?_⟩;refine At rfl (eK ?_);refine eS [_] N ?_;intro ai a4 aj bk;clear N;have ap:=ja ap aj (λk G hS=>by (obtain rfl:=gB (show some ah=some k from G);rcases aq with h|h;exact q1 _ h hS;omega));have O:=PlaceAt.fr O aj (q4);have F:=iU F aj (λk G=>gq (gq (by rw [show k=κ d from G];exact Y)));refine eK ?_
     have ab:Ro ρ (U0 ρ ag Z (.items d)) w:=λb hb=>WO ρ ag Z _ b Ab
     have a5:=HS.out.fresh;have h1:=HS.out.setCell (ρ':=U0 ρ ag Z (.items d)) (ys:=st.items d++[(st.items c).getD i 0]) F ab (λb hb=>NK (w:=ag) (w':=Z) (λb hb=>a5 b Ab) Ab b Ab) ⟨by rw [ab _ a0];exact Y,_,a4,(by
      have h9:Own ai 0 3 1 (.slice (some ⟨ah,0,none⟩) ((st.items d).length+1) am) ((st.items d).length+1) (AX (st.items d)++[.int .i64 ((st.items c).getD i 0)]):=by assumption
      unfold OwnI;rw [He,gO];exact h9),λk G=>by
      obtain rfl:=gB (show some ah=some k from G);rcases aq with h|h
      . rw [ab _ (q5 _ h)];exact U _ h
      . exact To ρ _ h a3⟩
     have bc:κ c<w.heap.size:=by
      rcases gK (κ c) w.heap.size with h|h
      . exact h
      . have:=O.hrc;rw [a5 _ h] at this;cases this
     have an:PlaceAt (U0 ρ ag Z (.items d)) κ ai c g n cap (st.items c):=⟨by rw [ab _ bc];exact O.hrc,by rw [ab _ az];exact O.hrg,O.hb,O.ho⟩;have F2:=iP (· = g) ai;have ho:=O.ho;have HF:=gp F;have Hp:=gp an;have H1:=gp h1;clear F O an h1;refine A2 (Cd Ac rfl rfl rfl Af hi) (BA ?_);rintro _ bp ⟨bd,a6,bq⟩;have F2:=F2.fr a6 Ab;clear ho a6;refine kR ?_;have a7:=Hp.out.hrg;rw [ab _ az] at a7;have h2:=H1.out.putI Hp.out.hrc Hp.out.hrg Hp.out.hb F2 bd;exact ⟨_,κ,rfl,ab,(by unfold Stp.put;rw [Gr,AB (λh=>af h.1)];exact h2),(HF.out.weaken (T:=λk=>Mi (ρ k)) (λk G=>by rcases G with h|h<;>rw [h]<;>trivial)).fr F2 (λk G=>gq (by rw [show k=g from G,a7];trivial))⟩
 . rcases List.eq_nil_or_concat (st.items d) with hy|⟨ys,v,hy⟩
   . have e:st.move 45 c i d=(13,st):=by unfold Stp.move;rw [AB CH,hy];rfl
     rw [e];have hn:(st.items d).length=0:=by rw [hy];rfl
     generalize (st.items d).length=dn at *;generalize κ d=db at *;clear O;refine Ad func227 ntmps227 rfl rfl (kR ?_);exact jc Af X
   rw [List.concat_eq_append] at hy;have hn:(st.items d).length=ys.length+1:=by rw [hy];simp
   have ak:(st.items d).getLast? = some v:=by rw [hy];simp
   have av:(st.items d).dropLast=ys:=by rw [hy];simp
   by_cases h0:(st.items c).getD i 0≠0
   . have e:st.move 45 c i d=(14,st):=by unfold Stp.move;rw [AB CH,ak];simp only;rw [AQ h0]
     rw [e];generalize (st.items d).length=dn at *;generalize (st.items c).getD i 0=v0 at *;generalize κ d=db at *;clear O;refine Ad func227 ntmps227 rfl rfl (kR ?_);exact jc Af X
   . have e:st.move 45 c i d=(0,(st.put c i v).all d ys):=by unfold Stp.move;rw [AB CH,ak];simp only;rw [AB h0,av]
     rw [e];have M:Own w 0 3 1 (.slice ad (st.items d).length cd) (st.items d).length (AX (st.items d)):=ac;have br:=M.le;obtain ⟨gd,go,rfl,a8⟩:=ac.at.get (by intro e;rw [e] at hn;simp at hn);have r2:=IntsAt.at a8 (i:=(((st.items d).length:Int)-1).toNat) Ab;rw [show (st.items d).getD (((st.items d).length:Int)-1).toNat 0=v by rw [hn,show (((ys.length+1:Nat):Int)-1).toNat=ys.length by omega,hy];simp] at r2;have an:((st.items d).length:Int)-1=(ys.length:Int):=by omega
     have be:ys.length<=cd:=by omega
     rw [hn,hy,He] at M;have M:=M.cut (m:=ys.length) (by simp [AX]) Ab;have q1:∀k,(gN (some ⟨gd,go,none⟩) ys.length cd).ownBlock=some k -> ¬k=κ d:=λk G e=>by have:=U k G;rw [e,Y] at this;cases this
     have q2:∀k,(gN (some ⟨gd,go,none⟩) ys.length cd).ownBlock=some k -> ¬k=g:=λk G e=>by have:=U k G;rw [e,O.hrg] at this;simp at this;exact af this
     have q3:¬ κ d=g:=λe=>by rw [e,O.hrg] at Y;cases Y
     have ho:=O.ho;have Hp:=gp O;have HS:=gp h;have F:=iP (λk=>k=g\/k=κ d) w;clear h ac O a8;refine Ad func227 ntmps227 rfl rfl (eK ?_);refine C1 (AK rfl rfl (gz _ Ab)) (eK ?_);refine A2 (Cd Ac rfl rfl rfl Af hi) (BA ?_);rintro _ bs ⟨aw,ax,bt⟩;have N:=iN N ax (q3);have M:=ja M ax (q2);clear ho;have F:=F.fr ax Ab;refine eK ?_;refine C1 (AK rfl rfl (gz _ Ab)) (C1 (Dn Ac rfl rfl rfl rfl an be) (eK ?_));refine eS [_] N ?_;intro bu a9 ay _;clear N;have aw:=jr aw ay (λk G=>by simp only [Go.Value.ownBlock,gy] at G;omega);have M:=ja M ay (q1);have F:=iU F ay (λk G=>gq (gt G));refine kR ?_;have ao:=Hp.out.hrg;have ae:=Hp.out.hrc;have bf:=Hp.out.hb.fr F (λe=>by
      rcases e with e|e
      . rw [e,ao] at ae;cases ae
      . rw [e,Y] at ae;simp at ae;exact af ae.symm)
     exact ⟨ρ,κ,rfl,Ro.refl _ _,HS.out.set2 af (F.weaken (λk G=>by rcases G with rfl|rfl;exact gq (gt ao);exact gt (gq Y))) (Ro.refl _ _) (HS.out.fresh.mv F) ⟨ae,_,bf,aw,λk G=>by obtain rfl:=gB (show some g=some k from G);exact ao⟩ ⟨Y,_,a9,M,U⟩,F.weaken (λk G=>by rcases G with rfl|rfl;rw [ao];trivial;rw [Y];trivial)⟩
def JF {cap:Nat} {v:Int} {ρ1:Nat->Rl} {O:wD} {ti to:List Int} (M:PlaceAt ρ κ w c g n cap (st.items c)) (hr:Ro ρ ρ1 w) (h1:∃G,Ro ρ1 G w1/\StoreAt G κ w1 sb { st with tin:=ti,tout:=to }) (U:Fr (BR ρ) w w1) (x2:Fr (· = g) w1 O) (ho:OwnI O 0 (.slice (some ⟨g,0,none⟩) n cap) ((st.items c).set i v)) :
 StR ρ sb { st.put c i v with tin:=ti,tout:=to } 0 w (.returned (.int .i64 0)) O:=by
 obtain ⟨G,V,h2⟩:=h1;have hs:=U.size;have N:=hr.trans V hs;have X:=M.lt;have Y:=M.hb.lt;have Z:=M.hb.fr U (λh=>by rcases h with h|h|h<;>rw [M.hrc] at h<;>cases h);have h3:=h2.putI (c:=c) (g:=g) (n:=n) (cap:=cap) (by rw [N _ Y];exact M.hrc) (by rw [N _ X];exact M.hrg) Z x2 ho;refine ⟨G,κ,rfl,N,h3,(U.weaken (T:=λk=>Mi (ρ k)) (λk hk=>by rcases hk with h|h|h<;>rw [h]<;>trivial)).fr x2 (λk hk=>gq (by rw [show k=g from hk,M.hrg];trivial))⟩
def Gs {r:Int} {N:Nat->Rl} (U:Ro ρ N w) (V:∃G,Ro N G w1/\StoreAt G κ w1 sb st) (O:Fr (BR ρ) w w1):StR ρ sb st r w (.returned (.int .i64 r)) w1:=by
 obtain ⟨G,M,X⟩:=V;exact ⟨G,κ,rfl,U.trans M O.size,X,O.weaken (λk Y=>by rcases Y with h|h|h<;>rw [h]<;>trivial)⟩
def WR {cap:Nat} (hi:i<(st.items c).length) (w:wD) (h:StoreAt ρ κ w sb st) (X:PlaceAt ρ κ w c g n cap (st.items c)) :
 Calls prog 228 #[.pointer (some ⟨sb,0,none⟩),.int .u8 46,.pointer (some ⟨g,0+i*1,none⟩)] w (StR ρ sb (st.transfer 46 c i).2 (st.transfer 46 c i).1 w):=by
 obtain ⟨bv,bc,al,cv,tb,hb,Y,Z⟩:=h.openT;have U:=X.row hi;have aa:=Y.li;have ae:=h.role;have V:=gp Z;have Hp:=gp X;have F:=iP (BR ρ) w;have q1:¬BR ρ g:=λh=>by rcases h with h|h|h<;>rw [X.hrg] at h<;>cases h
 have q2:¬BR ρ sb:=λh=>by rcases h with h|h|h<;>rw [ae] at h<;>cases h
 have ho:=X.ho;have q3:∀k,(gN (some ⟨g,0,none⟩) n cap).ownBlock=some k -> ¬BR ρ k:=λk N=>by obtain rfl:=gB (show some g=some k from N);exact q1
 clear Z X h;cases hti:st.tin with
 | nil=>
  have e:st.transfer 46 c i=(17,st):=by unfold je;rw [AQ rfl,hti]
  rw [e];rw [hti] at Y;have hR:=gp (λw1 h=>WJ ρ tb st.tout w1 h);refine Ad func228 ntmps228 rfl rfl (eK ?_);refine C1 (A0 Ac rfl rfl) (kQ (hR.out _ Af) ?_);rintro _ w5 ⟨am,⟨⟩,h2,h3,f4⟩;clear Y;have F:=iU F f4 (λk N=>gq N);refine kR ?_;exact Gs h2 (by
   have h9:=V.out _ _ _ _ h2 F h3;rwa [show ({ st with tin:=[],tout:=st.tout }:Stp)=st by rw [<-hti]] at h9) F
 | cons v r=>
  rw [hti] at Y aa;simp only [gD] at aa;have e:st.transfer 46 c i=if (st.items c).getD i 0≠0 then (14,st) else (0,{ st.put c i v with tin:=r }):=by unfold je;rw [AQ rfl,hti]
  rw [e];have hR:=gp (λw1 h=>Y2 ρ tb v r st.tout w1 h);have hU:=gp (λρ1 w1 h=>NG ρ1 tb v r st.tout w1 h Ab);generalize an:(st.items c).getD i 0=v0 at *;refine Ad func228 ntmps228 rfl rfl ?_
  focus
   refine eK ?_;refine C1 (A0 Ac rfl rfl) (kQ (hR.out _ Af) ?_);rintro _ af ⟨ai,⟨⟩,G,ab,M⟩;have ao:=M.size;have hb:=iN hb M (q2);have F:=iU F M (λk N=>gq N);have ho:=jr ho M (q3);clear Y;have U:=i8 U M (q1);refine eK ?_;refine BN rfl (λag=>?_) (λag=>?_);refine kQ (hU.out _ _ Af) ?_;rintro _ aj ⟨ak,⟨⟩,ac,ad,O⟩;have F:=iU F O (λk N=>by (rcases gK k w.heap.size with h|h;left;unfold BR at N ⊢;rw [G k h] at N;exact N;exact gt h));clear ho O;refine eK ?_;rotate_left;refine eK ?_;rotate_left
  . have h9:=V.out _ _ _ _ (G.trans ac Ab) F ad;rw [show ({ st with tin:=v::r,tout:=st.tout }:Stp)=st by rw [<-hti]] at h9;have H9:=gp h9;rw [AQ Af];refine kR ?_;exact Gs (G.trans ac Ab) H9.out F
  . have H9:=gp (V.out _ _ _ _ G F ab);have F2:=iP (· = g) af;have F1:=gp F;clear F;rw [AB (λh=>h Af)];refine eK ?_;refine A2 (Cd Ac rfl rfl rfl Af hi) (BA ?_);rintro _ ap ⟨aq,ah,ar⟩;clear ab hb ho U;have F2:=F2.fr ah Ab;refine kR ?_;exact JF Hp.out G H9.out F1.out F2 Af
def WS {cap:Nat} (hi:i<(st.items c).length) (w:wD) (h:StoreAt ρ κ w sb st) (Y:PlaceAt ρ κ w c g n cap (st.items c)) :
 Calls prog 228 #[.pointer (some ⟨sb,0,none⟩),.int .u8 49,.pointer (some ⟨g,0+i*1,none⟩)] w (StR ρ sb (st.transfer 49 c i).2 (st.transfer 49 c i).1 w):=by
 obtain ⟨bv,bc,am,cv,tb,hb,Z,aa⟩:=h.openT;have V:=Y.row hi;have ab:=Z.lo;have af:=h.role;have X:=gp aa;have Hp:=gp Y;have F:=iP (BR ρ) w;have q1:¬BR ρ g:=λh=>by rcases h with h|h|h<;>rw [Y.hrg] at h<;>cases h
 have q2:¬BR ρ sb:=λh=>by rcases h with h|h|h<;>rw [af] at h<;>cases h
 have ho:=Y.ho;have q3:∀k,(gN (some ⟨g,0,none⟩) n cap).ownBlock=some k -> ¬BR ρ k:=λk O=>by obtain rfl:=gB (show some g=some k from O);exact q1
 clear aa Y h;rcases List.eq_nil_or_concat st.tout with G|⟨r,v,G⟩
 . have e:st.transfer 49 c i=(17,st):=by unfold je;rw [AB CH,AB CH,AB CH,G];rfl
   rw [e];rw [G] at Z;have hR:=gp (λw1 h=>Qz ρ tb st.tin w1 h);refine Ad func228 ntmps228 rfl rfl (eK ?_);refine C1 (A0 Ac rfl rfl) (kQ (hR.out _ Af) ?_);rintro _ w5 ⟨an,⟨⟩,h2,h3,f4⟩;clear Z;have F:=iU F f4 (λk O=>gq O);refine kR ?_;exact Gs h2 (by
    have h9:=X.out _ _ _ _ h2 F h3;rwa [show ({ st with tin:=st.tin,tout:=[] }:Stp)=st by rw [<-G]] at h9) F
 . rw [List.concat_eq_append] at G;rw [G] at Z ab;simp only [gO,List.length_singleton] at ab;have e:st.transfer 49 c i=if (st.items c).getD i 0≠0 then (14,st) else (0,{ st.put c i v with tout:=r }):=by unfold je;rw [AB CH,AB CH,AB CH,show st.tout.getLast? = some v by rw [G];simp,show st.tout.dropLast=r by rw [G];simp]
   rw [e];have hR:=gp (λw1 h=>R8 ρ tb v st.tin r w1 h);have hU:=gp (λρ1 w1 h=>QA ρ1 tb v st.tin r w1 h Ab);generalize ao:(st.items c).getD i 0=v0 at *;refine Ad func228 ntmps228 rfl rfl ?_
   focus
    refine eK ?_;refine C1 (A0 Ac rfl rfl) (kQ (hR.out _ Af) ?_);rintro _ ag ⟨aj,⟨⟩,M,ac,N⟩;have ap:=N.size;have hb:=iN hb N (q2);have F:=iU F N (λk O=>gq O);have ho:=jr ho N (q3);clear Z;have V:=i8 V N (q1);refine eK ?_;refine BN rfl (λah=>?_) (λah=>?_);refine kQ (hU.out _ _ Af) ?_;rintro _ ak ⟨al,⟨⟩,ad,ae,U⟩;have F:=iU F U (λk O=>by (rcases gK k w.heap.size with h|h;left;unfold BR at O ⊢;rw [M k h] at O;exact O;exact gt h));clear ho U;refine eK ?_;rotate_left;refine eK ?_;rotate_left
   . have h9:=X.out _ _ _ _ (M.trans ad Ab) F ae;rw [show ({ st with tin:=st.tin,tout:=r++[v] }:Stp)=st by rw [<-G]] at h9;have H9:=gp h9;rw [AQ Af];refine kR ?_;exact Gs (M.trans ad Ab) H9.out F
   . have H9:=gp (X.out _ _ _ _ M F ac);have F2:=iP (· = g) ag;have F1:=gp F;clear F;rw [AB (λh=>h Af)];refine eK ?_;refine A2 (Cd Ac rfl rfl rfl Af hi) (BA ?_);rintro _ aq ⟨ar,ai,au⟩;clear ac hb ho V;have F2:=F2.fr ai Ab;refine kR ?_;exact JF Hp.out M H9.out F1.out F2 Af
def WT {cap:Nat} (hi:i<(st.items c).length) (w:wD) (h:StoreAt ρ κ w sb st) (Z:PlaceAt ρ κ w c g n cap (st.items c)) :
 Calls prog 228 #[.pointer (some ⟨sb,0,none⟩),.int .u8 47,.pointer (some ⟨g,0+i*1,none⟩)] w (StR ρ sb (st.transfer 47 c i).2 (st.transfer 47 c i).1 w):=by
 obtain ⟨bv,bc,ap,cv,tb,N,V,aa⟩:=h.openT;have G:=Z.row hi;have aq:=V.li;have ar:=V.lo;have ak:=h.role;have ab:=gp aa;have Hp:=gp Z;have F:=iP (BR ρ) w;have q1:¬BR ρ g:=λh=>by rcases h with h|h|h<;>rw [Z.hrg] at h<;>cases h
 have q2:¬BR ρ sb:=λh=>by rcases h with h|h|h<;>rw [ak] at h<;>cases h
 have O:=Z.ho;have q3:∀k,(gN (some ⟨g,0,none⟩) n cap).ownBlock=some k -> ¬BR ρ k:=λk hk=>by obtain rfl:=gB (show some g=some k from hk);exact q1
 have au:=Hp.out.lt;have av:=N.lt;clear aa Z h;by_cases hf:4096<=st.tin.length
 . have e:st.transfer 47 c i=(5,st):=by unfold je;rw [AB CH,AQ rfl,AQ hf]
   rw [e];have hR:=gp (λw1 h=>R7 ρ tb ((st.items c).getD i 0) st.tin st.tout w1 h Ab);generalize (st.items c).getD i 0=v0 at *;refine Ad func228 ntmps228 rfl rfl (eK ?_);refine C1 (A0 Ac rfl rfl) (eK ?_);refine Aq (λX=>Ext w X) 7 (.pure 0 (.pure 1 (.pure 2 (.pure 3 (.pure 4 (.pure 5 (.pure 6 .tail))))))) mixed AT (Ae (Aa Ag)) ?_;intro w1 x2 _;have ac:(λX=>Ext w X) w1:=x2;simp only at ac;have ad:=N;have ae:=V;have af:=O;have M:=G;revert N V F O G;refine eY x2 ?_;intro z4 N V F O G;refine ⟨ac,?_⟩;refine eT ?_;refine Tq rfl (Ap Ac rfl rfl rfl (λX hz=>iT (iO M hz) rfl)) (At rfl (eQ rfl (hR.out _ Af) ?_));rintro _ w9 ⟨aw,⟨⟩,h6,h7,f8⟩;have ax:=f8.size;have N:=iN N f8 (q2);clear V;have F:=iU F f8 (λk hk=>gq hk);have O:=jr O f8 (q3);have G:=i8 G f8 (q1);refine kR ?_;exact Gs (Ro.low h6 Ab) (ab.out _ _ _ _ (Ro.low h6 Ab) F h7) F
 . have e:st.transfer 47 c i=(0,{ st.put c i 0 with tin:=(st.items c).getD i 0::st.tin }):=by unfold je;rw [AB CH,AQ rfl,AB hf]
   rw [e];have hR:=gp (λw1 h=>NG ρ tb ((st.items c).getD i 0) st.tin st.tout w1 h Ab);generalize (st.items c).getD i 0=v0 at *;refine Ad func228 ntmps228 rfl rfl (eK ?_);refine C1 (A0 Ac rfl rfl) (eK ?_);refine Aq (λX=>Ext w X) 7 (.pure 0 (.pure 1 (.pure 2 (.pure 3 (.pure 4 (.pure 5 (.pure 6 .tail))))))) mixed AT (Ae (Aa Ag)) ?_;intro al ag _;have Y:(λX=>Ext w X) al:=ag;simp only at Y;have ad:=N;have ae:=V;have af:=O;have M:=G;revert N V F O G;refine eY ag ?_;intro ay N V F O G;refine ⟨Y,?_⟩;refine eT ?_;refine Tq rfl (Ap Ac rfl rfl rfl (λX hz=>iT (iO M hz) rfl)) (At rfl (eQ rfl (hR.out _ Af) ?_));rintro _ am ⟨an,⟨⟩,ah,ai,U⟩;have ao:=U.size;have N:=iN N U (q2);clear V;have F:=iU F U (λk hk=>gq hk);have O:=jr O U (q3);have G:=i8 G U (q1);refine eK ?_;have H9:=gp (ab.out _ _ _ _ (Ro.low ah Ab) F ai);have F2:=iP (· = g) am;have F1:=gp F;clear F;refine eK ?_;refine A2 (Cd Ac rfl rfl rfl Af hi) (BA ?_);rintro _ az ⟨a0,aj,a1⟩;have a2:=aj.size;clear ai N O G;have F2:=F2.fr aj Ab;refine kR ?_;exact JF Hp.out (Ro.low ah Ab) H9.out F1.out F2 Af
def WU {cap:Nat} (hi:i<(st.items c).length) (w:wD) (h:StoreAt ρ κ w sb st) (Z:PlaceAt ρ κ w c g n cap (st.items c)) :
 Calls prog 228 #[.pointer (some ⟨sb,0,none⟩),.int .u8 48,.pointer (some ⟨g,0+i*1,none⟩)] w (StR ρ sb (st.transfer 48 c i).2 (st.transfer 48 c i).1 w):=by
 obtain ⟨bv,bc,ap,cv,tb,N,V,aa⟩:=h.openT;have G:=Z.row hi;have aq:=V.li;have ar:=V.lo;have ak:=h.role;have ab:=gp aa;have Hp:=gp Z;have F:=iP (BR ρ) w;have q1:¬BR ρ g:=λh=>by rcases h with h|h|h<;>rw [Z.hrg] at h<;>cases h
 have q2:¬BR ρ sb:=λh=>by rcases h with h|h|h<;>rw [ak] at h<;>cases h
 have O:=Z.ho;have q3:∀k,(gN (some ⟨g,0,none⟩) n cap).ownBlock=some k -> ¬BR ρ k:=λk hk=>by obtain rfl:=gB (show some g=some k from hk);exact q1
 have au:=Hp.out.lt;have av:=N.lt;clear aa Z h;by_cases hf:4096<=st.tout.length
 . have e:st.transfer 48 c i=(5,st):=by unfold je;rw [AB CH,AB CH,AQ rfl,AQ hf]
   rw [e];have hR:=gp (λw1 h=>UU ρ tb ((st.items c).getD i 0) st.tin st.tout w1 h Ab);generalize (st.items c).getD i 0=v0 at *;refine Ad func228 ntmps228 rfl rfl (eK ?_);refine C1 (A0 Ac rfl rfl) (eK ?_);refine Aq (λX=>Ext w X) 7 (.pure 0 (.pure 1 (.pure 2 (.pure 3 (.pure 4 (.pure 5 (.pure 6 .tail))))))) mixed AT (Ae (Aa Ag)) ?_;intro w1 x2 _;have ac:(λX=>Ext w X) w1:=x2;simp only at ac;have ad:=N;have ae:=V;have af:=O;have M:=G;revert N V F O G;refine eY x2 ?_;intro z4 N V F O G;refine ⟨ac,?_⟩;refine eT ?_;refine Tq rfl (Ap Ac rfl rfl rfl (λX hz=>iT (iO M hz) rfl)) (At rfl (eQ rfl (hR.out _ Af) ?_));rintro _ w9 ⟨aw,⟨⟩,h6,h7,f8⟩;have ax:=f8.size;have N:=iN N f8 (q2);clear V;have F:=iU F f8 (λk hk=>gq hk);have O:=jr O f8 (q3);have G:=i8 G f8 (q1);refine kR ?_;exact Gs (Ro.low h6 Ab) (ab.out _ _ _ _ (Ro.low h6 Ab) F h7) F
 . have e:st.transfer 48 c i=(0,{ st.put c i 0 with tout:=st.tout++[(st.items c).getD i 0] }):=by unfold je;rw [AB CH,AB CH,AQ rfl,AB hf]
   rw [e];have hR:=gp (λw1 h=>QA ρ tb ((st.items c).getD i 0) st.tin st.tout w1 h Ab);generalize (st.items c).getD i 0=v0 at *;refine Ad func228 ntmps228 rfl rfl (eK ?_);refine C1 (A0 Ac rfl rfl) (eK ?_);refine Aq (λX=>Ext w X) 7 (.pure 0 (.pure 1 (.pure 2 (.pure 3 (.pure 4 (.pure 5 (.pure 6 .tail))))))) mixed AT (Ae (Aa Ag)) ?_;intro al ag _;have Y:(λX=>Ext w X) al:=ag;simp only at Y;have ad:=N;have ae:=V;have af:=O;have M:=G;revert N V F O G;refine eY ag ?_;intro ay N V F O G;refine ⟨Y,?_⟩;refine eT ?_;refine Tq rfl (Ap Ac rfl rfl rfl (λX hz=>iT (iO M hz) rfl)) (At rfl (eQ rfl (hR.out _ Af) ?_));rintro _ am ⟨an,⟨⟩,ah,ai,U⟩;have ao:=U.size;have N:=iN N U (q2);clear V;have F:=iU F U (λk hk=>gq hk);have O:=jr O U (q3);have G:=i8 G U (q1);refine eK ?_;have H9:=gp (ab.out _ _ _ _ (Ro.low ah Ab) F ai);have F2:=iP (· = g) am;have F1:=gp F;clear F;refine eK ?_;refine A2 (Cd Ac rfl rfl rfl Af hi) (BA ?_);rintro _ az ⟨a0,aj,a1⟩;have a2:=aj.size;clear ai N O G;have F2:=F2.fr aj Ab;refine kR ?_;exact JF Hp.out (Ro.low ah Ab) H9.out F1.out F2 Af
end
def QL (ps:List PD) (d:Nat) (b:Bool) {n:Int} (hk:k<50\/55<k) (r:Rn):AI ps (d+1) b (.mk k n s l) r=(Bn r).bind (C3 (·.run1 (if b then Ck k else k) n s l)):=by
 conv=>lhs;unfold AI
 rw [AB Ab,AB Ab,AB Ab,AB Ab,AB Ab]
def Mt (ps:List PD) (d:Nat) (b:Bool) {n:Int} (hk:k=50\/k=51) (r:Rn):AI ps (d+1) b (.mk k n s l) r =
 (Bn r).bind λr=>(C3 (·.enters (ps.getD ((CA ps s).getD 0) ⟨[],[],.mk 0 0 [] []⟩).params (l.map jd)) r).bind λr=>
  (AW (AI ps d) (b != decide (k=51)) (ps.getD ((CA ps s).getD 0) ⟨[],[],.mk 0 0 [] []⟩).body r).bind λr=>(Bn r).bind (C3 (·.leaves)):=by
 conv=>lhs;unfold AI
 rw [AB Ab,AB Ab,AB Ab,AB Ab,AQ hk]
def Sd {t:Nd} (h:t.isPlace=true):t.isExpr=true:=by
 simp only [Nd.isPlace,gu] at h;exact h.2
section
variable {at_:lB->Option (List Int)} {f:FuncId} {fi:lV} {I:wD->Prop}
def OL (Z:BT prog f=true) (U:KB at_ f fi I) (t:Nd) (hw:t.wf) (V:t.isExpr=true) (S:nP) (a:oA) (c:Nat) (w:wD) (h:t.sits S w a) (G:Keep I w) :
 Calls prog 221 #[t.val a c,.func (.func f) fi.toArray #[]] w (cL (A7 at_ t) w):=by
 have M:=Fm (· < w.heap.size) t hw;unfold DX at M;rw [V] at M;have HE:=gp M;have N:=PH Z U (t.size+1) t Ab V;unfold aG at N;have N:=gp N;have h:=B5 _ _ h;have X:=iK w;clear U M;generalize A7 at_ t=r at *;refine Ad func221 ntmps221 rfl rfl (cS (eB [_,_,_,_] ?_));intro b1 w2 Y x5 _ _;revert G h X;refine eE x5 ?_;intro G h X;refine eK ?_;refine C1 (Jc Ac rfl rfl) (kC (HE.out _ _ _ Af) ?_);rintro _ w9 ⟨⟨⟩,x8⟩;revert Y G h X;refine eE x8 ?_;intro Y G h X;refine kC (N.out _ _ _ _ Af Af) ?_;rintro _ aa ⟨⟨⟩,O⟩;have X:=X.ext O;refine kT ?_;exact ⟨rfl,X⟩
def Zd (N:BT prog f=true) (G:KB at_ f fi I) (t:Nd) (O:t.wf) (U:t.isExpr=true) (S:nP) (a:oA) (c:Nat) (w:wD) (h:t.sits S w a) (M:Keep I w) :
 Calls prog 219 #[t.val a c,.func (.func f) fi.toArray #[]] w λe w'=>e = .returned (.tuple #[.bool (decide ((A7 at_ t).1≠0)),.int .i64 (A7 at_ t).2])/\Ext w w':=by
 have V:=gp (OL N G t O U);have h:=B5 _ _ h;have X:=iK w;clear G;generalize A7 at_ t=r at *;refine Ad func219 ntmps219 rfl rfl (cS (eB [_,_,_,_] ?_));intro b1 w2 h4 Y _ _;revert M h X;refine eE Y ?_;intro M h X;refine kC (V.out _ _ _ _ Af Af) ?_;rintro _ w9 ⟨⟨⟩,Z⟩;have X:=X.ext Z;refine kT ?_;exact ⟨rfl,X⟩
def JG (hf:BT prog f=true) (HL:KB at_ f fi I) (t:Nd) (hw:t.wf) (Y:t.isPlace=true) (S:Nat->Prop) (a:Option Addr) (c:Nat) (w:World) (N:t.sits S w a) (Z:Keep I w) :
 Calls prog 223 #[t.val a c,.func (.func f) fi.toArray #[]] w (cL (Bo at_ t) w):=by
 have hE:=Gh (· < w.heap.size) t hw
 unfold DX at hE
 rw [Y] at hE;have HE:=gp hE;replace N:=B5 _ _ N;have X:=iK w;have aa:=Sd Y
 have hk:t.kind=2\/t.kind=3:=by
  simp only [Nd.isPlace,gu,Bool.or_eq_true,beq_iff_eq] at Y
  exact Y.1
 have ab:=LE aa
 cases ab with
 | ref h1 h2=>
  rename_i k s
  have ac:k=2:=by simp only [jj] at hk;omega
  subst ac;have e:Bo at_ (.mk 2 0 s [])=(0,0):=rfl;rw [e]
  change Calls prog 223 #[.agg #[.int .u8 2,.int .i64 0,str s,.slice a 0 c],.func (.func f) fi.toArray #[]] w _
  refine Ad func223 ntmps223 rfl rfl ?_
  refine cS (eB [_,_,_,_] ?_);intro b1 w2 h4 x5 _ _;revert X N;refine eE x5 ?_;intro X N;clear x5;refine C1 Pa (C1 Pa (cT (Aj (cS (C1 Mv (C1 (Jc Ac rfl rfl) (cT (AY rfl (Ao (Ai (Aj (cS (A3 [_,_,_,_] Ac rfl rfl rfl h4 rfl rfl rfl (cC rfl (HE.out _ _ _ Af) ?_))))))))))))));rintro _ w9 ⟨⟨⟩,x8⟩;revert h4 X;refine eE x8 ?_;intro h4 X;clear x8;refine C1 Pt (cT (AY rfl (Ao (Ai (Aj (cS (C1 Pg (C1 (Pl h4) (C1 V1 (cT (Vv (cS (C1 Pa (C1 Pa (cT (AM (Au (Ba rfl rfl rfl ?_))))))))))))))))))
  exact ⟨rfl,X⟩
 | item h1 h2=>
  rename_i s x
  have e:Bo at_ (.mk 3 0 s [x])=A7 at_ x:=rfl;rw [e];have HV:=PH hf HL (x.size+1) x Ab h2
  unfold aG at HV
  replace HV:=gp HV;obtain ⟨kb,ko,xa,xc,rfl,-,O,h⟩:=V0 N;replace h:=B5 _ _ h;clear HL hE
  generalize A7 at_ x=r at *
  change Calls prog 223 #[.agg #[.int .u8 3,.int .i64 0,str s,.slice (some ⟨kb,ko,none⟩) 1 c],.func (.func f) fi.toArray #[]] w _
  refine Ad func223 ntmps223 rfl rfl ?_
  refine cS (eB [_,_,_,_] ?_);intro ae af G U _ _;revert Z X N O h;refine eE U ?_;intro Z X N O h;clear U;refine C1 Pa (C1 Pa (cT (Aj (cS (C1 Mv (C1 (Jc Ac rfl rfl) (cT (AY rfl (Ao (Ai (Aj (cS (A3 [_,_,_,_] Ac rfl rfl rfl G rfl rfl rfl (cC rfl (HE.out _ _ _ Af) ?_))))))))))))));rintro _ ag ⟨⟨⟩,V⟩;revert G Z X O h;refine eE V ?_;intro G Z X O h;clear V;refine C1 Pt (cT (AY rfl (Ao (Ai (Aj (cS (C1 Pg (C1 (Pl G) (C1 V1 (cT (Lb (Ao (Ai (cS (C1 Pf (C1 (Pl G) (C1 Pi (BO [_,_,_,_] Ac rfl rfl rfl O rfl rfl rfl (C1 Mv (cC rfl (HV.out _ _ _ _ Af Af) ?_))))))))))))))))))));rintro _ ad ⟨⟨⟩,M⟩;replace X:=X.ext M;clear M;refine C1 Px (C1 Px (C1 Pa (C1 Pa (cT (AM (Ba rfl rfl rfl ?_))))))
  exact ⟨rfl,X⟩
 | num=>simp only [jj] at hk;omega
 | un h1 h2=>simp only [jj] at hk;omega
 | bin h1 h2 h3=>simp only [jj] at hk;omega
end
def WV (k x y:Int) (M:40<=k/\k<=42) (w:wD):Calls prog 226 #[.int .u8 k,.int .i64 x,.int .i64 y] w λe w'=>e = .returned (.tuple #[.int .i64 (VP k x y),.int .i64 0])/\w=w':=by
 refine Ad func226 ntmps226 rfl rfl ?_
 focus
  refine eK ?_;refine Ay rfl (λh=>?_) (λh=>?_);refine eK ?_;refine C1 (Je rfl rfl) (kT ?_);rotate_left;refine eK ?_;refine Ay rfl (λG=>?_) (λG=>?_);refine eK ?_;refine C1 (Pb rfl rfl) (kT ?_);rotate_left;refine eK ?_;refine C1 (SS rfl rfl) (kT ?_);rotate_left
 all_goals (refine ⟨?_,rfl⟩;unfold VP)
 . rw [AQ Af]
 . rw [AB Ab,AQ Af]
 . rw [AB Ab,AB Ab]
section
variable {ρ ρ':Nat->Rl} {κ:Nat->Nat} {K:List (Int×Int)} {m sb:Nat} {st st':Stp} {w w' w1:wD} {S:nP}
def ET (G:st.WF K m) (M:m<=1000000):KB st.look 224 [.pointer (some ⟨sb,0,none⟩)] (λw=>StoreAt ρ κ w sb st):=λs w N=>QI G M s w N.h
def EA (h:StoreAt ρ κ w sb st):Keep (λw=>StoreAt ρ κ w sb st) w:=⟨h,λ_ _ h x=>h.ext x⟩
def Im (G:st.WF K m) (h:x.isPlace=true) (M:x.bad st.cur.vars=0):∃i c,Ct x.name st.cur.vars=some i/\st.cur.cells[i]? = some c/\st.cellD x.name=c/\st.look x.name=some (st.items c)/\c<st.heap.length/\(∃y,K[c]? = some y/\(y.1=1\/y.1=2)):=by
 obtain ⟨k,n,s,l⟩:=x;have N:k=2\/k=3:=by
  simp only [Nd.isPlace,jj,gu,Bool.or_eq_true,beq_iff_eq] at h;exact h.1
 have O:=(OI M).1;have e:CQ k=1\/CQ k=2:=by unfold CQ;rcases N with rfl|rfl<;>decide
 obtain ⟨i,c,y,U,V,X,Y,Z,h7,h8,-⟩:=G.use (O Ab);exact ⟨i,c,U,V,X,Y,Z,y,h7,Ab⟩
def JH {M:oA} (N:ρ (κ c) = .cell c) (X:Blk w (κ c) [.slice M n i]) (O:OwnR ρ (.items c) w (.slice M n i) xs) (Y:0<n):∃g,M=some ⟨g,0,none⟩/\PlaceAt ρ κ w c g n i xs:=by
 rcases O.1.open with ⟨h,-⟩|⟨U,V,zs,h,-⟩
 . simp only [gR] at h;omega
 simp only [gR] at h;obtain ⟨rfl,-,-⟩:=h;exact ⟨U,rfl,N,O.2 U rfl,X,O.1⟩
def Ze (hw:st.WF K m) (hm:m<=1000000) (hk:40<=k/\k<=42) {y:Nd} (al:x.isPlace=true) (aq:y.isExpr=true) (ar:x.wf) (au:y.wf) (av:x.bad st.cur.vars=0) (a:Option Addr) (c0:Nat) (w:World) (hs:rowSits S w [x,y] a) (h:StoreAt ρ κ w sb st) :
 Calls prog 217 #[.pointer (some ⟨sb,0,none⟩),.agg #[.int .u8 k,.int .i64 0,str [],.slice a 2 c0]] w (StR ρ sb (st.exec k [] [x,y]).2 (st.exec k [] [x,y]).1 w):=by
 obtain ⟨i,c,hi,hc,ae,am,aw,-⟩:=Im hw al av
 have e:st.exec k [] [x,y]=if (Bo st.look x).2≠0 then ((Bo st.look x).2,st) else if (A7 st.look y).2≠0 then ((A7 st.look y).2,st) else if (Bo st.look x).1<0\/((st.items c).length:Int)<=(Bo st.look x).1 then (12,st) else (0,st.put c (Bo st.look x).1.toNat (VP k ((st.items c).getD (Bo st.look x).1.toNat 0) (A7 st.look y).1)):=by
  unfold Stp.exec
  simp only [List.getD_cons_zero,List.getD_cons_succ,AB (show ¬k=43 by omega),AQ hk,ae]
 rw [e];clear e;have U:=EA h;have HX:=gp (λxa xc w1 h1 h2=>JG AT (ET (sb:=sb) (ρ:=ρ) (κ:=κ) hw hm) x ar al (· < w.heap.size) xa xc w1 h1 h2);have HY:=gp (λya yc w1 h1 h2=>OL AT (ET (sb:=sb) (ρ:=ρ) (κ:=κ) hw hm) y au aq (· < w.heap.size) ya yc w1 h1 h2);have HC:=gp (λw1 h=>Mp (ρ:=ρ) (κ:=κ) (sb:=sb) hw hm x.name hi w1 h);rw [ae] at HC;obtain ⟨kb,ko,xa,xc,ya,yc,rfl,-,M,Z,N,hy⟩:=aF hs;replace Z:=B5 _ _ Z;replace hy:=B5 _ _ hy;obtain ⟨ax,vi,G,af⟩:=h.cells _ _ (Ez aw);obtain ⟨ai,ci,rfl⟩:=af.1.shape;have ba:=hw.look_le am
 have an:=λhn=>JH ax G af hn
 have HS:=gp h;have X:=iK w;clear h hs af;obtain ⟨xk,xn,xs,xl⟩:=x;obtain ⟨yk,yn,ys,yl⟩:=y;simp only [jd] at HC hi ae am;replace M:Row w ⟨kb,ko+0*4,none⟩ [.int .u8 xk,.int .i64 xn,str xs,.slice xa xl.length xc]:=M;replace N:Row w ⟨kb,ko+1*4,none⟩ [.int .u8 yk,.int .i64 yn,str ys,.slice ya yl.length yc]:=N
 generalize hA:Bo st.look (.mk xk xn xs xl)=A at *
 generalize hB:A7 st.look (.mk yk yn ys yl)=B at *
 generalize hn:(st.items c).length=n at *
 refine Ad func217 ntmps217 rfl rfl ?_
 focus
  refine cS (eB [_,_,_,_] ?_);intro b1 w2 O x5 p6 z7;revert U X Z hy M N G;refine eE x5 ?_;intro U X Z hy M N G;clear x5;refine C1 Pa (cN (C1 Pf (C1 (Pl O) (C1 Pi (BO [_,_,_,_] Ac rfl rfl rfl M rfl rfl rfl (C1 Mv (C1 (Eo rfl rfl) (cC rfl (HX.out _ _ _ Af Af) ?_))))))));rintro _ w9 ⟨⟨⟩,x8⟩;have bb:=x8.size;revert O U X Z hy M N G;refine eE x8 ?_;intro O U X Z hy M N G;clear x8;refine C1 Mv (C1 Px (C1 Px (C1 Pa (C1 Pa (cT (Aj (cS (C1 Mv (C1 V2 (cT (BN rfl (λay=>?_) (λay=>?_))))))))))));refine cS (C1 Mv (C1 Pa (cT (AM (Au (AP rfl rfl ?_))))));rotate_left;refine Ao (Ai (cS (C1 Pa (cT (Aj (cS (C1 Pg (C1 (Pl O) (cT (As (cS (C1 V1 (C1 Pa (cT (C6 (Aj ?_))))))))))))))));rotate_left
 . rw [AQ Af]
   exact jc U.h X
 rw [AB (λh=>h Af)];refine Dv (ι:=Unit) (λ_=>[(0,.pointer (some ⟨sb,0,none⟩)),(3,.pointer (some ⟨b1,0,none⟩)),(5,.int .i64 A.1),(6,.int .i64 A.2),(7,.int .i64 0),(40,.bool true)]) (λ_ w'=>w'=w9) ?_ ?_
 . focus
    refine cS (C1 V1 (C1 Pa (cT (Ay rfl (λaz=>?_) (λaz=>?_)))));refine Ao ?_;rotate_left;refine cS (C1 V1 (C1 Pa (cT (Ay rfl (λa0=>?_) (λa0=>?_)))));refine Ao ?_;rotate_left;refine Al (C1 V1 (C1 Pa (Ak ?_)));rotate_left
   all_goals exact BS () (Am rfl (Am rfl (Am rfl (Am rfl (Am rfl (BL rfl (congrArg Value.bool (decide_eq_true Ab)) BB)))))) rfl
 rintro-u1 hu;subst hu
 focus
  refine BJ rfl (Al (C1 Pf (C1 (Pl O) (C1 Pi (C1 (VF N) (C1 Mv (C1 (Eo rfl rfl) (cC rfl (HY.out _ _ _ Af Af) ?_))))))));rintro _ bc ⟨⟨⟩,ag⟩;have bd:=ag.size;revert O U X Z hy M N G;refine eE ag ?_;intro O U X Z hy M N G;clear ag;refine C1 Mv (C1 Px (C1 Px (C1 Pa (C1 Pa (Ak (Ah (Ai (Aj (cS (C1 Mv (C1 V2 (cT (BN rfl (λa1=>?_) (λa1=>?_))))))))))))));refine cS (C1 Mv (C1 Pa (cT (AM (Au (AP rfl rfl ?_))))));rotate_left;refine Ao (Ai (cS (C1 Mv (C1 Pf (C1 (Pl O) (C1 Pi (C1 Pf (C1 (Pw M) (cC rfl (HC.out _ (Keep.h Af)) ?_)))))))));rintro _ ao ⟨⟨⟩,ah⟩;have be:=ah.size;revert O U X Z hy M N G;refine eE ah ?_;intro O U X Z hy M N G;clear ah;refine C1 Pn (C1 Pg (C1 (Pl G) (C1 Pa (cT (Aj ?_)))));rotate_left
 . rw [AQ Af]
   exact jc U.h X
 rw [AB (λh=>h Af)]
 by_cases V:A.1<0\/(n:Int)<=A.1
 . rw [AQ V];clear an
   focus
    refine cS (C1 Mv (C1 V3 (C1 Mv (BY rfl rfl rfl (λa2=>?_) (λa2=>?_)))));refine FB (FB (FB (FB (C1 Ry (cT (BJ rfl (cS (C1 Pa (cT (AM (Au (AP rfl rfl ?_))))))))))));rotate_left;refine FA (C1 Mv (FA (C1 Mv (FA (C1 Pz (FA (C1 V6 (C1 O1 (cT (O8 (cS (C1 Pa (cT (AM (Au (AP rfl rfl ?_))))))))))))))));rotate_left
   . exact jc U.h X
   . exact jc U.h X
 rw [AB V];obtain ⟨g,rfl,hp⟩:=an Ab;replace hp:=hp.ext X;have ab:=hp.row (i:=A.1.toNat) Ab;have ho:=hp.ho;have F:=iP (· = g) ao;have Hp:=gp hp;have HI:=gp U.h;have a3:=gp X;clear hp U Z hy M N X
 generalize (st.items c).getD A.1.toNat 0=v0 at *
 refine cS (C1 Mv (C1 V3 (C1 Mv (DK (C1 Mv (DK (C1 Mv (DK (C1 Pz (DK (C1 V6 (C1 K5 (cT (C6 (Ao (Ai (cS (C1 Mv (C1 Mv (C1 Pi (C1 Pa (cT (Aj (cS (C1 Pg (C1 (Pl O) (cT (As (Aj ?_)))))))))))))))))))))))))))))
 refine Dv (ι:=Unit) (λ_=>[(3,.pointer (some ⟨b1,0,none⟩)),(7,.int .i64 B.1),(9,.pointer (some ⟨g,0+A.1.toNat*1,none⟩)),(80,.bool true)]) (λ_ w'=>w'=ao) ?_ ?_
 . focus
    refine cS (C1 V1 (C1 Pa (cT (Ay rfl (λa4=>?_) (λa4=>?_)))));refine Ao ?_;rotate_left;refine cS (C1 V1 (C1 Pa (cT (Ay rfl (λa5=>?_) (λa5=>?_)))));refine Ao ?_;rotate_left;refine Al (C1 V1 (C1 Pa (Ak ?_)));rotate_left
   all_goals exact BS () (Am rfl (Am rfl (Am rfl (BL rfl (congrArg Value.bool (decide_eq_true Ab)) BB)))) rfl
 rintro-u2 hu;subst hu
 have a6:A.1.toNat<(st.items c).length:=by omega
 refine BJ rfl (Aj (Aq (λwz=>Ext u2 wz) 11 (.pure 0 (.pure 1 (.pure 2 (.pure 3 (.pure 4 (.pure 5 (.fork 6 (.pure 7 (.pure 8 (.pure 9 (.pure 10 .tail)))) .none))))))) mixed AT (Aa (Ae (Aa Ag))) ?_));intro a7 ac _;have Y:(λwz=>Ext u2 wz) a7:=ac;simp only at Y;have ad:=O;have aj:=G;have ap:=ho;have aa:=ab;have bf:=ac.size;revert O G ho F ab;refine eE ac ?_;intro O G ho F ab;clear ac;refine ⟨Y,?_⟩;refine Tq rfl Pg (Tq rfl (Db ad) (Tq rfl Mv (Tq rfl Pn (Tq rfl (Ap Ac rfl rfl rfl (λwz hz=>iT (iO aa hz) rfl)) (Tq rfl Mv (AE rfl (AR AT rfl (WV _ _ _ hk _) (λ_ _ h=>⟨_,h.1⟩)) rfl ?_ aFh AD))))));rintro _ bg ⟨⟨⟩,rfl⟩;refine ⟨Y,?_⟩;refine Tq rfl Mv (Tq rfl Px (Tq rfl Px (Tq rfl Pa ?_)));clear Y ad aj ap aa;refine At rfl (C1 Pa (cT (Aj (cS (C1 Mv (C1 V1 (cT (Vv (Al (C1 Mv (C1 Mv (C1 Pn (A2 (Cd Ac rfl rfl rfl Af a6) (BA ?_))))))))))))));rintro _ a8 ⟨bh,ak,bi⟩;have a9:=ak.size;clear O G ho;replace F:=F.fr ak Ab;clear ab ak;refine cN (C1 Mv (C1 Pa (cT (AM (AJ (Au (AP rfl rfl ?_)))))))
 exact ⟨ρ,κ,rfl,Ro.refl _ _,HI.out.putI Hp.out.hrc Hp.out.hrg Hp.out.hb F Af,(iM a3.out).fr F (λk hk=>gq (by rw [show k=g from hk,Hp.out.hrg];trivial))⟩
def Zf (hw:st.WF K m) (hm:m<=1000000) {y:Nd} (bh:x.isPlace=true) (bi:y.isPlace=true) (bt:x.wf) (bu:y.wf) (bv:x.bad st.cur.vars=0) (bw:y.bad st.cur.vars=0) (a:Option Addr) (c0:Nat) (w:World) (hs:rowSits S w [x,y] a) (h:StoreAt ρ κ w sb st) :
 Calls prog 217 #[.pointer (some ⟨sb,0,none⟩),.agg #[.int .u8 43,.int .i64 0,str [],.slice a 2 c0]] w (StR ρ sb (st.exec 43 [] [x,y]).2 (st.exec 43 [] [x,y]).1 w):=by
 obtain ⟨i,c,hi,hc,a5,bj,bk,-⟩:=Im hw bh bv;obtain ⟨i',V,bl,cl,ar,a2,bm,-⟩:=Im hw bi bw
 have e:st.exec 43 [] [x,y]=if (Bo st.look x).2≠0 then ((Bo st.look x).2,st) else if (Bo st.look y).2≠0 then ((Bo st.look y).2,st) else if (Bo st.look x).1<0\/((st.items c).length:Int)<=(Bo st.look x).1 then (12,st) else if (Bo st.look y).1<0\/((st.items V).length:Int)<=(Bo st.look y).1 then (12,st)
  else (0,(st.put c (Bo st.look x).1.toNat ((st.items V).getD (Bo st.look y).1.toNat 0)).put V (Bo st.look y).1.toNat ((st.items c).getD (Bo st.look x).1.toNat 0)):=by
  unfold Stp.exec
  simp only [List.getD_cons_zero,List.getD_cons_succ,if_true,AB (show ¬(40<=(43:Int)/\(43:Int)<=42) by decide),a5,ar]
 rw [e];clear e;have hI:=EA h;have HX:=gp (λxa xc w1 h1 h2=>JG AT (ET (sb:=sb) (ρ:=ρ) (κ:=κ) hw hm) x bt bh (· < w.heap.size) xa xc w1 h1 h2);have HY:=gp (λya yc w1 h1 h2=>JG AT (ET (sb:=sb) (ρ:=ρ) (κ:=κ) hw hm) y bu bi (· < w.heap.size) ya yc w1 h1 h2);have HC:=gp (λw1 h=>Mp (ρ:=ρ) (κ:=κ) (sb:=sb) hw hm x.name hi w1 h);have HD:=gp (λw1 h=>Mp (ρ:=ρ) (κ:=κ) (sb:=sb) hw hm y.name bl w1 h);rw [a5] at HC;rw [ar] at HD;obtain ⟨kb,ko,xa,xc,ya,yc,rfl,-,N,hx,O,hy⟩:=aF hs;replace hx:=B5 _ _ hx;replace hy:=B5 _ _ hy;obtain ⟨af,vi,G,a6⟩:=h.cells _ _ (Ez bk);obtain ⟨ai,ci,rfl⟩:=a6.1.shape;obtain ⟨bx,vj,M,a7⟩:=h.cells _ _ (Ez bm);obtain ⟨aj,cj,rfl⟩:=a7.1.shape;have cm:=hw.look_le bj;have b8:=hw.look_le a2
 have a8:=λhn=>JH af G a6 hn
 have az:=λhn=>JH bx M a7 hn
 have X:=iK w;clear h hs a6 a7;obtain ⟨xk,xn,xs,xl⟩:=x;obtain ⟨yk,yn,ys,yl⟩:=y;simp only [jd] at HC HD hi a5 bj bl ar a2;replace N:Row w ⟨kb,ko+0*4,none⟩ [.int .u8 xk,.int .i64 xn,str xs,.slice xa xl.length xc]:=N;replace O:Row w ⟨kb,ko+1*4,none⟩ [.int .u8 yk,.int .i64 yn,str ys,.slice ya yl.length yc]:=O
 generalize hA:Bo st.look (.mk xk xn xs xl)=A at *
 generalize hB:Bo st.look (.mk yk yn ys yl)=B at *
 generalize hn:(st.items c).length=n at *
 generalize cn:(st.items V).length=n' at *
 refine Ad func217 ntmps217 rfl rfl ?_
 focus
  refine cS (eB [_,_,_,_] ?_);intro b1 w2 h4 x5 p6 z7;revert hI X hx hy N O G M;refine eE x5 ?_;intro hI X hx hy N O G M;clear x5;refine C1 Pa (cN (C1 Pf (C1 (Pl h4) (C1 Pi (BO [_,_,_,_] Ac rfl rfl rfl N rfl rfl rfl (C1 Mv (C1 (Eo rfl rfl) (cC rfl (HX.out _ _ _ Af Af) ?_))))))));rintro _ w9 ⟨⟨⟩,x8⟩;have co:=x8.size;revert h4 hI X hx hy N O G M;refine eE x8 ?_;intro h4 hI X hx hy N O G M;clear x8;refine C1 Mv (C1 Px (C1 Px (C1 Pa (C1 Pa (cT (Aj (cS (C1 Mv (C1 V2 (cT (BN rfl (λbz=>?_) (λbz=>?_))))))))))));refine cS (C1 Mv (C1 Pa (cT (AM (Au (AP rfl rfl ?_))))));rotate_left;refine Ao (Ai (cS (C1 Pa (cT (Aj (cS (C1 Pg (C1 (Pl h4) (cT (As (cS (C1 V1 (C1 Pa (cT (Vv (Al (C1 Pf (C1 (Pl h4) (C1 Pi (C1 (VF O) (C1 Mv (C1 (Eo rfl rfl) (cC rfl (HY.out _ _ _ Af Af) ?_)))))))))))))))))))))));rintro _ cp ⟨⟨⟩,a9⟩;have cq:=a9.size;revert h4 hI X hx hy N O G M;refine eE a9 ?_;intro h4 hI X hx hy N O G M;clear a9;refine C1 Mv (C1 Px (C1 Px (C1 Pa (C1 Pa (Ak (Ah (Ai (Aj (cS (C1 Mv (C1 V2 (cT (BN rfl (λb0=>?_) (λb0=>?_))))))))))))));refine cS (C1 Mv (C1 Pa (cT (AM (Au (AP rfl rfl ?_))))));rotate_left;refine Ao (Ai (cS (C1 Mv (C1 Pf (C1 (Pl h4) (C1 Pi (C1 Pf (C1 (Pw N) ?_))))))))
  refine cC rfl (HC.out _ (Keep.h Af)) ?_;rintro _ cr ⟨⟨⟩,ba⟩;have ct:=ba.size;revert h4 hI X hx hy N O G M;refine eE ba ?_;intro h4 hI X hx hy N O G M;clear ba;refine C1 Pn (C1 Pg (C1 (Pl G) (C1 Pa (cT (Aj ?_)))));rotate_left
 . rw [AQ Af]
   exact jc hI.h X
 . rw [AB (λh=>h Af),AQ Af]
   exact jc hI.h X
 rw [AB (λh=>h Af),AB (λh=>h Af)]
 by_cases ak:A.1<0\/(n:Int)<=A.1
 . rw [AQ ak];clear a8 az
   focus
    refine cS (C1 Mv (C1 V3 (C1 Mv (BY rfl rfl rfl (λb2=>?_) (λb2=>?_)))));refine FB (FB (FB (FB (C1 Ry (cT (BJ rfl (cS (C1 Pa (cT (AM (Au (AP rfl rfl ?_))))))))))));rotate_left;refine FA (C1 Mv (FA (C1 Mv (FA (C1 Pz (FA (C1 V6 (C1 O1 (cT (O8 (cS (C1 Pa (cT (AM (Au (AP rfl rfl ?_))))))))))))))));rotate_left
   . exact jc hI.h X
   . exact jc hI.h X
 rw [AB ak];obtain ⟨g,rfl,hp⟩:=a8 Ab
 refine cS (C1 Mv (C1 V3 (C1 Mv (DK (C1 Mv (DK (C1 Mv (DK (C1 Pz (DK (C1 V6 (C1 K5 (cT (C6 (Ao (Ai (cS (C1 Mv (C1 Mv (C1 Pi (C1 Pa (cT (Aj (cS (C1 Pg (C1 (Pl h4) (cT (As (Aj (cS (C1 V1 (C1 Pa (cT (Lb (cS (C1 V1 (C1 Pa (cT (Lb (Al (C1 V1 (C1 Pa (cT (Lb (cS (C1 V1 (C1 Pa (cT (Vv (cS (C1 Mv (C1 Pf (C1 (Pl h4) (C1 Pi (C1 Pf (C1 (Pw O) (cC rfl (HD.out _ (Keep.h Af)) ?_)))))))))))))))))))))))))))))))))))))))))))))))))))))))));rintro _ aa ⟨⟨⟩,bb⟩;have cu:=bb.size;revert h4 hI X hx hy N O M G;refine eE bb ?_;intro h4 hI X hx hy N O M G;clear bb;refine C1 Pn (C1 Pg (C1 (Pl M) (C1 Pa (cT (Aj ?_)))))
 by_cases ac:B.1<0\/(n':Int)<=B.1
 . rw [AQ ac];clear az
   focus
    refine cS (C1 Mv (C1 V3 (C1 Mv (BY rfl rfl rfl (λb3=>?_) (λb3=>?_)))));refine FB (FB (FB (FB (C1 Ry (cT (BJ rfl (cS (C1 Pa (cT (AM (Au (AJ (Au (AP rfl rfl ?_))))))))))))));rotate_left;refine FA (C1 Mv (FA (C1 Mv (FA (C1 Pz (FA (C1 V6 (C1 O1 (cT (O8 (cS (C1 Pa (cT (AM (Au (AJ (Au (AP rfl rfl ?_))))))))))))))))));rotate_left
   . exact jc hI.h X
   . exact jc hI.h X
 rw [AB ac];obtain ⟨g',rfl,hq⟩:=az Ab
 have bc:A.1.toNat<(st.items c).length:=by omega
 have bd:B.1.toNat<(st.items V).length:=by omega
 have ad:=(hp.ext X).row bc;have ab:=(hq.ext X).row bd;have bn:=gp X;have HI:=gp hI.h;clear hx hy N O a8 az HX HY HC HD hI
 by_cases a0:V=c
 . subst a0
   have b4:g'=g:=by
    have h1:=(hp.hb.row.at0 rfl).symm.trans (hq.hb.row.at0 rfl);simp only [gy,gR,Addr.mk.injEq,and_true] at h1
    exact h1.1.symm
   subst b4
   have e:(st.put V A.1.toNat ((st.items V).getD B.1.toNat 0)).put V B.1.toNat ((st.items V).getD A.1.toNat 0)=st.all V (((st.items V).set A.1.toNat ((st.items V).getD B.1.toNat 0)).set B.1.toNat ((st.items V).getD A.1.toNat 0)):=by
    unfold Stp.put
    rw [Gr,AQ ⟨rfl,bk⟩]
    unfold Stp.all
    simp
   rw [e];clear e
   have bo:∀v,B.1.toNat<((st.items V).set A.1.toNat v).length:=λv=>by rw [List.length_set];exact bd
   have ho:=(hp.ext X).ho;have Hp:=gp (hp.ext X);have F:=iP (· = g') aa;clear hp hq X
   generalize (st.items V).getD A.1.toNat 0=v0 at *
   generalize (st.items V).getD B.1.toNat 0=v1 at *
   refine cS (C1 Mv (C1 V3 (C1 Mv (DK (C1 Mv (DK (C1 Mv (DK (C1 Pz (DK (C1 V6 (C1 K5 (cT (C6 (Ao (Ai (Aj (EM (λwz=>Ext aa wz) (λwz=>Fr (λx=>x=g') aa wz) [1,2,11,12,13] [1,2] 11 12 (.free 1 (.free 2 (.pure 0 (.pure 3 (.pure 4 (.pure 5 (.pure 6 (.pure 7 (.pure 8 (.pure 9 (.pure 10 (.put 11 (.tail 12))))))))))))) (λ_ h=>iM h) mixed AT (Aa (Ae (Aa Ag))) ?_))))))))))))))))));intro bp au _;have a3:(λwz=>Ext aa wz) bp:=au;simp only at a3;have al:(λwz=>Fr (λx=>x=g') aa wz) bp:=iM au;simp only at al;have av:=h4;have ag:=M;have ah:=G;have aw:=ho;have Y:=ad;have Z:=ab;have cv:=au.size;revert h4 M G ho F ad ab;refine eE au ?_;intro h4 M G ho F ad ab;clear au;refine Bl Af rfl (Ar rfl) rfl (Bl Af rfl (Ar rfl) rfl (An Af rfl (Ar rfl) rfl (An Af rfl (Ar rfl) rfl (An Af rfl (Ar rfl) rfl (An Af rfl (AC Ac rfl rfl rfl rfl Ab Ab) rfl (An Af rfl (Ap Ac rfl rfl rfl (λwz hz=>iT (iO Z hz) rfl)) rfl (An Af rfl (Ar rfl) rfl (An Af rfl (BG rfl) rfl ?_))))))))
   refine An Af rfl (Ap Ac rfl rfl rfl (λwz hz=>iT (iO Y hz) rfl)) rfl (An Af rfl (BG rfl) rfl (Du rfl (Cd Ac rfl rfl rfl Af bc) (BA ?_)));rintro _ cw ⟨b5,a1,cx⟩;have b9:=a1.size;replace al:=al.fr a1 Ab;clear h4 M G ho;replace F:=F.fr a1 Ab;clear ad ab a1;refine ⟨Af,?_⟩;clear a3 av ag ah aw Y Z al;refine Dt rfl (C1 Pi (A2 (Cd Ac rfl rfl rfl Af (bo _)) (BA ?_)));rintro _ ca ⟨cb,ax,cc⟩;have cd:=ax.size;clear b5;replace F:=F.fr ax Ab;clear ax;refine cN (C1 Pa (cT (AM (AJ (Au (AP rfl rfl ?_))))))
   exact ⟨ρ,κ,rfl,Ro.refl _ _,HI.out.putI Hp.out.hrc Hp.out.hrg Hp.out.hb F Af,(iM bn.out).fr F (λk hk=>gq (by rw [show k=g' from hk,Hp.out.hrg];trivial))⟩
 . have e:(st.put c A.1.toNat ((st.items V).getD B.1.toNat 0)).put V B.1.toNat ((st.items c).getD A.1.toNat 0)=(st.all c ((st.items c).set A.1.toNat ((st.items V).getD B.1.toNat 0))).all V ((st.items V).set B.1.toNat ((st.items c).getD A.1.toNat 0)):=by
    unfold Stp.put
    rw [Gr,AB (λh=>a0 h.1)]
   rw [e];clear e;have be:=hp.ext X;have bf:=hq.ext X;have ao:=hp.hrg;have U:=hq.hrg
   have bq:g'≠g:=λe=>by rw [e,ao] at U;simp at U;exact a0 U.symm
   have ho:=be.ho;have ap:=bf.ho;have Hp:=gp be;have Hq:=gp bf;have F:=iP (λk=>k=g\/k=g') aa;clear hp hq X be bf
   generalize (st.items c).getD A.1.toNat 0=v0 at *
   generalize (st.items V).getD B.1.toNat 0=v1 at *
   refine cS (C1 Mv (C1 V3 (C1 Mv (DK (C1 Mv (DK (C1 Mv (DK (C1 Pz (DK (C1 V6 (C1 K5 (cT (C6 (Ao (Ai (Aj (EM (λwz=>Ext aa wz) (λwz=>Fr (λx=>x=g) aa wz) [1,2,11,12,13] [1,2] 11 12 (.free 1 (.free 2 (.pure 0 (.pure 3 (.pure 4 (.pure 5 (.pure 6 (.pure 7 (.pure 8 (.pure 9 (.pure 10 (.put 11 (.tail 12))))))))))))) (λ_ h=>iM h) mixed AT (Aa (Ae (Aa Ag))) ?_))))))))))))))))));intro br ay _;have a4:(λwz=>Ext aa wz) br:=ay;simp only at a4;have am:(λwz=>Fr (λx=>x=g) aa wz) br:=iM ay;simp only at am;have av:=h4;have ah:=G;have ag:=M;have aw:=ho;have bg:=ap;have Y:=ad;have Z:=ab;have cy:=ay.size;revert h4 G M ho ap F ad ab;refine eE ay ?_;intro h4 G M ho ap F ad ab;clear ay;refine Bl Af rfl (Ar rfl) rfl (Bl Af rfl (Ar rfl) rfl (An Af rfl (Ar rfl) rfl (An Af rfl (Ar rfl) rfl (An Af rfl (Ar rfl) rfl (An Af rfl (AC Ac rfl rfl rfl rfl Ab Ab) rfl (An Af rfl (Ap Ac rfl rfl rfl (λwz hz=>iT (iO Z hz) rfl)) rfl (An Af rfl (Ar rfl) rfl ?_)))))))
   refine An Af rfl (BG rfl) rfl (An Af rfl (Ap Ac rfl rfl rfl (λwz hz=>iT (iO Y hz) rfl)) rfl (An Af rfl (BG rfl) rfl (Du rfl (Cd Ac rfl rfl rfl Af bc) (BA ?_))));rintro _ cz ⟨bs,aq,c1⟩;have ce:=aq.size;replace am:=am.fr aq Ab;clear h4 G M ho;replace ap:=jr ap aq (λk hk hS=>by (obtain rfl:=gB (show some g'=some k from hk);exact bq hS));replace F:=F.fr aq Ab;clear ad;replace ab:=ab.fr aq Ab;clear aq;refine ⟨Af,?_⟩;clear a4 av ah ag aw bg Y Z am;refine Dt rfl (C1 Pi (A2 (Cd Ac rfl rfl rfl Af bd) (BA ?_)));rintro _ cf ⟨cg,an,ch⟩;have ck:=an.size;replace bs:=jr bs an (λk hk hS=>by (obtain rfl:=gB (show some g=some k from hk);exact bq hS.symm));clear ap;replace F:=iU F an (λk hk=>gq (gt hk));clear ab an;refine cN (C1 Pa (cT (AM (AJ (Au (AP rfl rfl ?_))))))
   have af:=Hp.out.hrc;have ae:=Hq.out.hrc
   have b6:=Hp.out.hb.fr F (λe=>by
    rcases e with e|e
    . rw [e,ao] at af
      cases af
    . rw [e,U] at af
      cases af)
   have b7:=Hq.out.hb.fr F (λe=>by
    rcases e with e|e
    . rw [e,ao] at ae
      cases ae
    . rw [e,U] at ae
      cases ae)
   exact ⟨ρ,κ,rfl,Ro.refl _ _,HI.out.set2 (Ne.symm a0) (F.weaken (λk hk=>by rcases hk with rfl|rfl;exact gq (gt ao);exact gt (gt U))) (Ro.refl _ _) (HI.out.fresh.mv F) ⟨af,_,b6,Af,λk hk=>by obtain rfl:=gB (show some g=some k from hk);exact ao⟩ ⟨ae,_,b7,Af,λk hk=>by obtain rfl:=gB (show some g'=some k from hk);exact U⟩,
    (iM bn.out).fr F (λk hk=>gq (by rcases hk with rfl|rfl;rw [ao];trivial;rw [U];trivial))⟩
def Tr (hw:st.WF K m) (hm:m<=1000000) {s:List UInt8} (hk:(44<=k/\k<=49)) (av:x.isPlace=true) (az:x.wf) (a0:x.bad st.cur.vars=0) (a1:(k=44\/k=45)->FC st.cur.vars s 3=0) (a:Option Addr) (c0:Nat) (w:World) (hs:rowSits S w [x] a) (h:StoreAt ρ κ w sb st) :
 Calls prog 217 #[.pointer (some ⟨sb,0,none⟩),.agg #[.int .u8 k,.int .i64 0,str s,.slice a 1 c0]] w (StR ρ sb (st.exec k s [x]).2 (st.exec k s [x]).1 w):=by
 obtain ⟨i,c,hi,hc,ao,ak,a2,yk,a3,be⟩:=Im hw av a0
 have e:st.exec k s [x]=if (Bo st.look x).2≠0 then ((Bo st.look x).2,st) else if (Bo st.look x).1<0\/((st.items c).length:Int)<=(Bo st.look x).1 then (12,st) else if k=44\/k=45 then st.move k c (Bo st.look x).1.toNat (st.cellD s) else st.transfer k c (Bo st.look x).1.toNat:=by
  unfold Stp.exec
  simp only [List.getD_cons_zero,AB (show ¬k=43 by omega),AB (show ¬(40<=k/\k<=42) by omega),ao]
  simp
 rw [e];clear e;have Z:=EA h;have HX:=gp (λxa xc w1 h1 h2=>JG AT (ET (sb:=sb) (ρ:=ρ) (κ:=κ) hw hm) x az av (· < w.heap.size) xa xc w1 h1 h2);have HC:=gp (λw1 h=>Mp (ρ:=ρ) (κ:=κ) (sb:=sb) hw hm x.name hi w1 h);rw [ao] at HC;obtain ⟨kb,ko,xa,xc,rfl,-,N,hx⟩:=V0 hs;replace hx:=B5 _ _ hx;obtain ⟨a4,vi,G,ap⟩:=h.cells _ _ (Ez a2);obtain ⟨ai,ci,rfl⟩:=ap.1.shape;have bs:=hw.look_le ak
 have aw:=λhn=>JH a4 G ap hn
 have X:=iK w;clear h hs ap;obtain ⟨xk,xn,xs,xl⟩:=x;simp only [jd] at HC hi ao ak;replace N:Row w ⟨kb,ko+0*4,none⟩ [.int .u8 xk,.int .i64 xn,str xs,.slice xa xl.length xc]:=N
 generalize hA:Bo st.look (.mk xk xn xs xl)=A at *
 generalize hn:(st.items c).length=n at *
 refine Ad func217 ntmps217 rfl rfl ?_
 focus
  refine cS (eB [_,_,_,_] ?_);intro b1 w2 O x5 p6 z7;revert Z X hx N G;refine eE x5 ?_;intro Z X hx N G;clear x5;refine C1 Pa (cN (C1 Pf (C1 (Pl O) (C1 Pi (BO [_,_,_,_] Ac rfl rfl rfl N rfl rfl rfl (C1 Mv (C1 (Eo rfl rfl) (cC rfl (HX.out _ _ _ Af Af) ?_))))))));rintro _ w9 ⟨⟨⟩,x8⟩;have bt:=x8.size;revert O Z X hx N G;refine eE x8 ?_;intro O Z X hx N G;clear x8;refine C1 Mv (C1 Px (C1 Px (C1 Pa (C1 Pa (cT (Aj (cS (C1 Mv (C1 V2 (cT (BN rfl (λa5=>?_) (λa5=>?_))))))))))));refine cS (C1 Mv (C1 Pa (cT (AM (Au (AP rfl rfl ?_))))));rotate_left;refine Ao (Ai (cS (C1 Pa (cT (Aj (cS (C1 Pg (C1 (Pl O) (cT (As (cS (C1 V1 (C1 Pa (cT (C6 (Aj (cS (C1 V1 (C1 Pa (cT (C6 (cS (C1 V1 (C1 Pa (cT (C6 (Al (C1 V1 (C1 Pa (cT (C6 (Ao (Ah (Ai (Aj (cS (C1 Mv (C1 V2 (cT (C6 (Ao (Ai (cS (C1 Mv (C1 Pf (C1 (Pl O) (C1 Pi (C1 Pf (C1 (Pw N) (cC rfl (HC.out _ (Keep.h Af)) ?_))))))))))))))))))))))))))))))))))))))))))))))))));rintro _ al ⟨⟨⟩,aq⟩;have bu:=aq.size;revert O Z X hx N G;refine eE aq ?_;intro O Z X hx N G;clear aq;refine C1 Pn (C1 Pg (C1 (Pl G) (C1 Pa (cT (Aj ?_)))));rotate_left
 . rw [AQ Af]
   exact jc Z.h X
 rw [AB (λh=>h Af)]
 by_cases ab:A.1<0\/(n:Int)<=A.1
 . rw [AQ ab];clear aw
   focus
    refine cS (C1 Mv (C1 V3 (C1 Mv (BY rfl rfl rfl (λa6=>?_) (λa6=>?_)))));refine FB (FB (FB (FB (C1 Ry (cT (BJ rfl (cS (C1 Pa (cT (AM (Au (AP rfl rfl ?_))))))))))));rotate_left;refine FA (C1 Mv (FA (C1 Mv (FA (C1 Pz (FA (C1 V6 (C1 O1 (cT (O8 (cS (C1 Pa (cT (AM (Au (AP rfl rfl ?_))))))))))))))));rotate_left
   . exact jc Z.h X
   . exact jc Z.h X
 rw [AB ab];obtain ⟨g,rfl,V⟩:=aw Ab;replace V:=V.ext X
 have ad:A.1.toNat<(st.items c).length:=by omega
 by_cases am:k=44\/k=45
 . rw [AQ am];obtain ⟨i2,d,yd,e1,e2,e3,e4,e5,e6,e7,e8⟩:=hw.use (a1 am)
   have ax:c≠d:=by
    rintro rfl;rw [a3] at e6;obtain rfl:=gB e6
    omega
   have a7:(st.items d).length<=1000:=by rcases e8 with ⟨h,-⟩|⟨h,-⟩|⟨-,h⟩<;>omega
   have HD:=gp (λw1 h=>Mp (ρ:=ρ) (κ:=κ) (sb:=sb) hw hm s e1 w1 h);rw [e3] at HD ⊢;have HM:=gp (λw1 h V=>aT (ρ:=ρ) (κ:=κ) (sb:=sb) (g:=g) (n:=n) (cap:=ci) hw e5 ax a7 ad k am w1 h V);have F:Fr (λk=>Mi (ρ k)) w _:=iM X;clear hx N e4 e6 e7 e8 e1 e2 ak X
   generalize st.move k c A.1.toNat d=r at *
   focus
    refine cS (C1 Mv (C1 V3 (C1 Mv (DK (C1 Mv (DK (C1 Mv (DK (C1 Pz (DK (C1 V6 (C1 K5 (cT (C6 (Ao (Ai (cS (C1 Mv (C1 Mv (C1 Pi (C1 Pa (cT (Aj (cS (C1 Pg (C1 (Pl O) (cT (As (Aj (cS (C1 V1 (C1 Pa (cT (C6 (cS (C1 V1 (C1 Pa (cT (C6 (Al (C1 V1 (C1 Pa (cT (C6 (cS (C1 V1 (C1 Pa (cT (C6 (Aj (cS (C1 V1 (C1 Pa (cT (Ay rfl (λa8=>?_) (λa8=>?_))))))))))))))))))))))))))))))))))))))))))))))))))))))));refine Ao (Ai (VH (Aj (Aq (λwz=>Ext al wz) 7 (.pure 0 (.pure 1 (.pure 2 (.pure 3 (.pure 4 (.pure 5 (.fork 6 .tail .none))))))) mixed AT (Aa (Ae (Aa Ag))) ?_))));intro a9 an _;have Y:(λwz=>Ext al wz) a9:=an;simp only at Y;have U:=O;have ae:=Z;have aa:=G;have af:=V;have bv:=an.size;revert O Z G V F;refine eE an ?_;intro O Z G V F;clear an;refine ⟨Y,?_⟩;refine Tq rfl Pg (Tq rfl (Db U) (Tq rfl Mv (Tq rfl Mv (Tq rfl Pf (Tq rfl (Db U) (AE rfl (AR AT rfl (HD.out _ (Keep.h Af)) (λ_ _ h=>⟨_,h.1⟩)) rfl ?_ aFh AD))))));rintro _ bw ⟨⟨⟩,ar⟩;have bx:=ar.size;revert Y O Z G V F;refine eE ar ?_;intro Y O Z G V F;clear ar;refine ⟨Y,?_⟩;clear U ae aa af Y;refine At rfl (eQ rfl (HM.out _ (Keep.h Af) Af) ?_)
    rintro _ bf ⟨ba,bb,⟨⟩,bg,bh,ag⟩;have bi:=ag.size;clear O G V;replace F:=iU F ag (λk hk=>gq hk);clear ag;refine C1 Pa (cT (AM (AJ (Au (AP rfl rfl ?_)))));rotate_left;refine Al (C1 V1 (C1 Pa (cT (O8 (Aj (Aq (λwz=>Ext al wz) 7 (.pure 0 (.pure 1 (.pure 2 (.pure 3 (.pure 4 (.pure 5 (.fork 6 .tail .none))))))) mixed AT (Aa (Ae (Aa Ag))) ?_))))));intro ay ac _;have M:(λwz=>Ext al wz) ay:=ac;simp only at M;have U:=O;have ae:=Z;have aa:=G;have af:=V;have bj:=ac.size;revert O Z G V F;refine eE ac ?_;intro O Z G V F;clear ac;refine ⟨M,?_⟩;refine Tq rfl Pg (Tq rfl (Db U) (Tq rfl Mv (Tq rfl Mv (Tq rfl Pf (Tq rfl (Db U) (AE rfl (AR AT rfl (HD.out _ (Keep.h Af)) (λ_ _ h=>⟨_,h.1⟩)) rfl ?_ aFh AD))))));rintro _ bk ⟨⟨⟩,ah⟩;have bl:=ah.size;revert M O Z G V F;refine eE ah ?_;intro M O Z G V F;clear ah;refine ⟨M,?_⟩;clear U ae aa af M;refine At rfl (eQ rfl (HM.out _ (Keep.h Af) Af) ?_);rintro _ bm ⟨bc,bd,⟨⟩,bn,bo,aj⟩;have bp:=aj.size;clear O G V;replace F:=iU F aj (λk hk=>gq hk);clear aj;refine C1 Pa (cT (AM (AJ (Au (AP rfl rfl ?_)))))
    rotate_left
   . exact ⟨_,_,rfl,Ro.low Af Ab,Af,F⟩
   . exact ⟨_,_,rfl,Ro.low Af Ab,Af,F⟩
 . rw [AB am]
   have HT:∀w1,StoreAt ρ κ w1 sb st->PlaceAt ρ κ w1 c g n ci (st.items c)->Calls prog 228 #[.pointer (some ⟨sb,0,none⟩),.int .u8 k,.pointer (some ⟨g,0+A.1.toNat*1,none⟩)] w1 (StR ρ sb (st.transfer k c A.1.toNat).2 (st.transfer k c A.1.toNat).1 w1):=λw1 h V=>by
    rcases (show k=46\/k=47\/k=48\/k=49 by omega) with rfl|rfl|rfl|rfl
    . exact WR ad w1 h V
    . exact WT ad w1 h V
    . exact WU ad w1 h V
    . exact WS ad w1 h V
   replace HT:=gp HT;have F:Fr (λk=>Mi (ρ k)) w _:=iM X;clear hx N ak X
   generalize st.transfer k c A.1.toNat=r at *
   refine cS (C1 Mv (C1 V3 (C1 Mv (DK (C1 Mv (DK (C1 Mv (DK (C1 Pz (DK (C1 V6 (C1 K5 (cT (C6 (Ao (Ai (cS (C1 Mv (C1 Mv (C1 Pi (C1 Pa (cT (Aj (cS (C1 Pg (C1 (Pl O) (cT (As (Aj (cS (C1 V1 (C1 Pa (cT (C6 (cS (C1 V1 (C1 Pa (cT (C6 (Al (C1 V1 (C1 Pa (cT (C6 (cS (C1 V1 (C1 Pa (cT (C6 (Aj (cS (C1 V1 (C1 Pa (cT (C6 (Al (C1 V1 (C1 Pa (cT (C6 (Ao (Ah (Ai (cS (C1 Mv (C1 Pg (C1 (Pl O) (C1 Mv (eQ rfl (HT.out _ (Keep.h Af) Af) ?_)))))))))))))))))))))))))))))))))))))))))))))))))))))))))))))))))))));rintro _ bz ⟨bq,br,⟨⟩,b0,b2,au⟩;have b3:=au.size;clear O G V;replace F:=iU F au (λk hk=>gq hk);clear au;refine C1 Pa (cT (AM (AP rfl rfl ?_)))
   exact ⟨_,_,rfl,Ro.low Af Ab,Af,F⟩
end
section
variable {ρ ρ':Nat->Rl} {κ:Nat->Nat} {K:List (Int×Int)} {m sb:Nat} {st st':Stp} {w w' w1:wD} {S:nP}
def Se (h:40<=k/\k<=49):40<=Ck k/\Ck k<=49:=by
 unfold Ck;rcases (show k=40\/k=41\/k=42\/k=43\/k=44\/k=45\/k=46\/k=47\/k=48\/k=49 by omega) with rfl|rfl|rfl|rfl|rfl|rfl|rfl|rfl|rfl|rfl<;>decide
def U1 {n:Int} (G:40<=k/\k<=49) (h:(Nd.mk k n s l).isStmt=true):(Nd.mk (Ck k) n s l).isStmt=true:=by
 unfold Nd.isStmt at h ⊢;rcases (show k=40\/k=41\/k=42\/k=43\/k=44\/k=45\/k=46\/k=47\/k=48\/k=49 by omega) with rfl|rfl|rfl|rfl|rfl|rfl|rfl|rfl|rfl|rfl<;>simpa [Ck] using h
def aU (Y:st.WF K m) (Z:m<=1000000) {n:Int} (hk:40<=k/\k<=49) (aa:(Nd.mk k n s l).isStmt=true) (ab:(Nd.mk k n s l).wf) (hb:(Nd.mk k n s l).bad st.cur.vars=0) (a:oA) (V:Nat) (w:wD) (hs:rowSits S w l a) (h:StoreAt ρ κ w sb st) :
 Calls prog 217 #[.pointer (some ⟨sb,0,none⟩),.agg #[.int .u8 k,.int .i64 n,str s,.slice a l.length V]] w (StR ρ sb (st.exec k s l).2 (st.exec k s l).1 w):=by
 have U:=OI hb;obtain ⟨-,-,-,-,-,-,M⟩:=ab;cases Ce aa with
 | upd X N hy=>
  obtain ⟨G,O,-⟩:=M;exact Ze Y Z Ab N hy G O (D2 U.2).1 a V w hs h
 | swap N hy=>
  obtain ⟨G,O,-⟩:=M;exact Zf Y Z N hy G O (D2 U.2).1 (D2 (D2 U.2).2).1 a V w hs h
 | stack X hn N=>
  obtain ⟨G,-⟩:=M;exact Tr Y Z Ab N G (D2 U.2).1 (λ_=>by
   have:=U.1;have e:CQ k=3:=by unfold CQ;rcases X with rfl|rfl<;>decide
   rw [e] at this;exact this CH) a V w hs h
 | tape X N=>
  obtain ⟨G,-⟩:=M;exact Tr Y Z Ab N G (D2 U.2).1 (λh=>by omega) a V w hs h
 | call X=>omega
 | branch X=>omega
 | local_=>omega
 | lstack=>omega
def dJ (hw:st.WF K m) (hm:m<=1000000) {n:Int} (hk:(40<=k/\k<=49)\/k=56) (aa:(Nd.mk k n s l).isStmt=true) (ab:(Nd.mk k n s l).wf) (hz:(Nd.mk k n s l).size<=1000000) (a:oA) (c0:Nat) (w:wD) (hs:rowSits S w l a) (h:StoreAt ρ κ w sb st) :
 Calls prog 196 #[.pointer (some ⟨sb,0,none⟩),.agg #[.int .u8 k,.int .i64 n,str s,.slice a l.length c0]] w (StR ρ sb (st.run1 k n s l).2 (st.run1 k n s l).1 w):=by
 have hE:=VY (· < w.heap.size) (.mk k n s l) ab;unfold DX at hE;rw [aa] at hE;have hE:=gp (λw1 hs=>hE a c0 w1 hs);simp only [Nd.val,Nd.sits] at hE;have M:=B6 _ _ hs;have X:=iK w;have V:=EA h;have aq:=hw.nc;have ar:=hw.curm;rcases hk with hk|rfl
 . have e:st.run1 k n s l=if (Nd.mk k n s l).bad st.cur.vars≠0 then ((Nd.mk k n s l).bad st.cur.vars,st) else st.exec k s l:=by unfold Stp.run1;rw [AB Ab]
   rw [e];clear e;obtain ⟨fb,fo,pre,post,T,vv,vc,O,-,Z,hf,-⟩:=h.open;obtain ⟨av,cv,rfl,N⟩:=GV (S:=λ_=>True) hf.v.1 (λ_ _=>trivial);have G:=Z.blk;have HC:=gp (λw1 h=>Ey fb fo st.calls.length sb Ab w1 h);have HF:=gp (λw1 h1 h2 h3=>Y7 st.cur.vars Ab av cv vc (.int .i64 st.cur.locals) fb fo _ (.mk k n s l) (· < w.heap.size) (λ_=>True) a c0 w1 (Nat.lt_succ_self _) Ab h1 h2 h3);simp only [Nd.val,Nd.sits] at HF;have HX:(Nd.mk k n s l).bad st.cur.vars=0 -> ∀w1,rowSits (· < w.heap.size) w1 l a->StoreAt ρ κ w1 sb st->Calls prog 217 #[.pointer (some ⟨sb,0,none⟩),.agg #[.int .u8 k,.int .i64 n,str s,.slice a l.length c0]] w1 (StR ρ sb (st.exec k s l).2 (st.exec k s l).1 w1):=λhb w1 h1 h2=>aU hw hm hk aa ab hb a c0 w1 h1 h2
   have HX:=gp HX;have HB:=gp (λw1=>Y8 k hk w1);have F:Fr (λk=>Mi (ρ k)) w w:=iP _ w;clear h hf Z hs;generalize (Nd.mk k n s l).bad st.cur.vars=bd at *;generalize st.exec k s l=r at *;generalize st.cur.vars=vs at *;refine Ad func196 ntmps196 rfl rfl ?_
   focus
    refine cS (eB [_,_,_,_] ?_);intro b1 w2 Y x5 p6 z7;revert M X V O F N G;refine eE x5 ?_;intro M X V O F N G;refine eK ?_;refine C1 (A0 Ac rfl rfl) (kC (hE.out _ Af) ?_);rintro _ w9 ⟨⟨⟩,x8⟩;revert Y M X V O F N G;refine eY x8 ?_;intro au Y M X V O F N G;refine kC (HB.out _) ?_;rintro _ ac ⟨⟨⟩,ah⟩;revert Y M X V O F N G;refine eY ah ?_;intro aw Y M X V O F N G;refine eK ?_;refine Aq (λwz=>Ext ac wz) 3 (.pure 0 (.pure 2 (.fork 1 .tail .none))) mixed AT (Aa (Aa Ag)) ?_;intro ai ad _;have U:(λwz=>Ext ac wz) ai:=ad;simp only at U;have ae:=Y;revert Y M X V O F N G;refine eY ad ?_;intro ax Y M X V O F N G;refine ⟨U,?_⟩;refine Tq rfl Mv (Tq rfl (xL [_,_,_,_] (λwz hz=>(iW ae hz))) (tC rfl rfl (HC.out _ Af) ?_));rintro _ ay ⟨⟨⟩,aj⟩;revert U Y M X V F N G;refine eY aj ?_;intro az U Y M X V F N G;refine ⟨U,?_⟩;refine At rfl (cC rfl (HF.out _ Af Af Af) ?_);rintro _ a0 ⟨⟨⟩,ak⟩;revert Y M X V F;refine eY ak ?_;intro a1 Y M X V F;refine eK ?_;refine BN rfl (λal=>?_) (λal=>?_);refine kR ?_;rotate_left;refine kQ (HX.out Af _ Af (Keep.h Af)) ?_;rintro _ a2 ⟨ao,ap,⟨⟩,a3,a4,af⟩;have F:=iU F af (λk hk=>gq hk);clear N G af;refine kR ?_;rotate_left
   . rw [AQ Af];exact jc V.h X
   . rw [AB (λh=>h Af)];exact ⟨_,_,rfl,Ro.low Af Ab,Af,F⟩
 . have e:st.run1 56 n s l=(9,st):=by unfold Stp.run1;rw [AQ rfl]
   rw [e];clear hs;refine Ad func196 ntmps196 rfl rfl (cS (eB [_,_,_,_] ?_));intro a5 a6 ag am _ _;revert h M X;refine eE am ?_;intro h M X;refine eK ?_;refine C1 (A0 Ac rfl rfl) (kC (hE.out _ Af) ?_);rintro _ a7 ⟨⟨⟩,an⟩;revert ag h X;refine eE an ?_;intro ag h X;refine kR ?_;exact jc Af X
def aV (hw:st.WF K m) (hm:m<=1000000) {n:Int} (M:(40<=k/\k<=49)\/k=56) (N:(Nd.mk k n s l).isStmt=true) (Y:(Nd.mk k n s l).wf) (hz:(Nd.mk k n s l).size<=1000000) (a:oA) (c0:Nat) (w:wD) (hs:rowSits S w l a) (h:StoreAt ρ κ w sb st) :
 Calls prog 195 #[.pointer (some ⟨sb,0,none⟩),.agg #[.int .u8 k,.int .i64 n,str s,.slice a l.length c0]] w (StR ρ sb (st.run1 (Ck k) n s l).2 (st.run1 (Ck k) n s l).1 w):=by
 have G:=B6 _ _ hs;have HI:=gp (UZ k Ab);have Z:(40<=Ck k/\Ck k<=49)\/Ck k=56:=by
  rcases M with h|rfl
  . exact gq (Se h)
  . exact gt rfl
 have O:(Nd.mk (Ck k) n s l).isStmt=true:=by
  rcases M with h|rfl
  . exact U1 h N
  . exact N
 have U:(Nd.mk (Ck k) n s l).wf:=by
  obtain ⟨-,-,h1⟩:=Y;exact ⟨Ab,Ab,h1⟩
 have HD:=gp (λw1 h1 h2=>dJ (ρ:=ρ) (κ:=κ) (sb:=sb) hw hm Z O U hz a c0 w1 (S:=(· < w.heap.size)) h1 h2);have V:=h.fresh;have hn:∀k,w.heap.size<=k -> ¬Mi (ρ k):=λk M e=>by rw [V k M] at e;exact e
 have F:Fr (λk=>Mi (ρ k)) w w:=iP _ w;generalize st.run1 (Ck k) n s l=r at *;generalize Ck k=k2 at *;clear hs V;refine Ad func195 ntmps195 rfl rfl (cS (eB [_,_,_,_] ?_));intro b1 w2 h4 x5 p6 z7;revert h G F;refine eE x5 ?_;intro h G F;refine kC (HI.out _) ?_;rintro _ w9 ⟨⟨⟩,x8⟩;revert h4 h G F;refine eY x8 ?_;intro ae h4 h G F;refine C1 Pg (eV [_] [_,_,_,_] h4 ?_);intro af aa X ag;have h:=StoreAt.fr h X (λk M=>hn k (by have:k=_:=M;omega));revert G F;refine eF X ?_;intro G F;refine kQ (HD.out _ Af Af) ?_;rintro _ ah ⟨ac,ad,⟨⟩,ai,aj,ab⟩;clear aa h G;have F:=iU F ab (λk M=>gq M);refine kR ?_;exact ⟨_,_,rfl,Ro.low Af Ab,Af,F⟩
end
section
variable {P:Program} {n:Nat} {l:Sl} {w:wD} {ty:TypeId} {Q:Exit->Act->wD->Prop} {ops:Array Oper} {rest:List Oper} {pos:String} {after:Array Edge} {B:List PanicEntry->wD->Prop}
def Mu {f:FuncId} {xs:List Operand} {tys:Array TypeId} {vs:lV} {d:Option Nat} (U:BT P f=true) (G:evs l xs=some vs) (C:Calls P f vs.toArray w (TX (λ_ _=>False) B)) (M:∀c w1,B c w1->QW n Q (.panic c) l w1) :
 LW P n ops Q (⟨d,.call ⟨.value (.func f),xs.toArray,tys⟩,ty,pos,after,none⟩::rest) l w:=by
 unfold LW;unfold QW at M;intro a N;unfold wpList;rw [AQ (Bc rfl)];left;have O:=AL (n:=n) (tys:=tys) (ty:=ty) U G C (λ_ _ h=>h.elim);unfold Ng at O;exact O a _ _ _ _ _ _ N (λv w1 h=>h.elim) (λc w1 h=>M c w1 h a N)
end
def Mw {P:Program} {l:Sl} {S:wD->Prop} {tab:Tab} {t ty sz:Nat} {x y:Operand} {p q:Bool} (T:TabOk P tab) (G:Az tab t=some (.bool,sz)) (M:ev l x=some (.bool p)) (N:ev l y=some (.bool q)):Bh P n l S (.binOp .neq t x y c) ty (.bool (decide (p≠q))):=by
 unfold Bh;intro _ w O pos after g h _;have U:(eqGuard .neq t x y (.bool p) (.bool q)).run P w = .ok () w:=by unfold eqGuard;simp
 have V:P.underlying t=some .bool:=(T _ _ _ G).under;have X:(Op.equal t (.bool p) (.bool q)).run P w = .ok (p==q) w:=by
  show (iJ (9999+1) t (.bool p) (.bool q)).run P w=_;unfold iJ;simp [AA V,gw]
 simp [execOp,h.ev M,h.ev N,U,X,binOp];cases p<;>cases q<;>rfl
def Mx (e:Int):List PanicEntry:=[{ v:=.iface 240 (.agg #[.int .i64 e]),recovered:=false }]
structure RC where
 rb:Nat
 sb:Nat
 eb:Nat
 ec:Nat
 g:PG
 va:oA
 vc:Nat
 pa:oA
 pc:Nat
 ma:oA
 mc:Nat
 fuel:Nat
 S:nP
def dK (r:Rl):Prop:=Mi r\/r = .other 0\/r = .other 1
structure RunAt (c:RC) (P:nP) (ρ:Nat->Rl) (κ:Nat->Nat) (w:wD) (r:Rn):Prop where
 role:ρ c.rb = .other 0
 rolE:ρ c.eb = .other 1
 rem:r.rem<=c.fuel
 blk:Blk w c.rb [.slice c.va c.g.vars.length c.vc,.slice c.pa c.g.procs.length c.pc,.int .u8 c.g.main.kind,.int .i64 c.g.main.num,str c.g.main.name,.slice c.ma c.g.main.kids.length c.mc,.pointer (some ⟨c.sb,0,none⟩),.int .i64 ((c.fuel:Int)-r.rem),.int .i64 c.fuel,.slice (some ⟨c.eb,0,none⟩) c.g.procs.length c.ec]
 ent:∃es:List Int,es.length=c.g.procs.length/\Blk w c.eb (AX es)
 st:StoreAt ρ κ w c.sb r.st
 wf:∃K,r.st.WF K (1000+(c.fuel-r.rem))
 procs:PDs c.S w c.g.procs c.pa
 sub:∀k,c.S k->P k
 off:∀k,P k -> ¬dK (ρ k)/\k<w.heap.size
section
variable {c:RC} {P P':nP} {ρ ρ':Nat->Rl} {κ κ':Nat->Nat} {w w':wD} {r:Rn} {T:nP}
def PDs.frS {S:nP} {l:List PD} {a:oA} (h:PDs S w l a) (x:Fr T w w') (G:∀b,S b -> ¬T b):PDs S w' l a:=
 h.mono aFh (λb _ _ _ M ⟨N,pc,ba,bc,h1,h2,h3⟩=>⟨N,pc,ba,bc,h1.fr x (G b M),h2.fr x G,iL h3 x G⟩)
def RunAt.ext (h:RunAt c P ρ κ w r) (x:Ext w w'):RunAt c P ρ κ w' r:=by
 obtain ⟨O,U,V,X,⟨es,Y,Z⟩,h7,h8,h9,M,G⟩:=h;have hs:=x.size;exact ⟨O,U,V,X.ext x,⟨es,Y,Z.ext x⟩,h7.ext x,h8,h9.ext x,M,λk N=>⟨(G k N).1,by have:=(G k N).2;omega⟩⟩
instance  : LfE w w' (RunAt c P ρ κ w r) (RunAt c P ρ κ w' r):=⟨λx h=>Bk.RunAt.ext h x⟩
def Run (c:RC) (P:nP) (w:wD) (r:Rn):Prop:= ∃ ρ κ,RunAt c P ρ κ w r
def Run.ext (h:Run c P w r) (x:Ext w w'):Run c P w' r:=h.imp λ_ ⟨κ,h⟩=>⟨κ,h.ext x⟩
instance  : LfE w w' (Run c P w r) (Run c P w' r):=⟨λx h=>Bk.Run.ext h x⟩
def Run.blk (h:Run c P w r):Blk w c.rb [.slice c.va c.g.vars.length c.vc,.slice c.pa c.g.procs.length c.pc,.int .u8 c.g.main.kind,.int .i64 c.g.main.num,str c.g.main.name,.slice c.ma c.g.main.kids.length c.mc,.pointer (some ⟨c.sb,0,none⟩),.int .i64 ((c.fuel:Int)-r.rem),.int .i64 c.fuel,.slice (some ⟨c.eb,0,none⟩) c.g.procs.length c.ec]:=by
 obtain ⟨_,_,h⟩:=h;exact h.blk
def Run.rem (h:Run c P w r):r.rem<=c.fuel:=by
 obtain ⟨_,_,h⟩:=h;exact h.rem
def B9 (P:nP) (w w':wD):nP:=λk=>P k\/(w.heap.size<=k/\k<w'.heap.size)
def Run.more (h:Run c P w r) (x:Ext w w'):Run c (B9 P w w') w' r:=by
 obtain ⟨ρ,κ,h⟩:=h;obtain ⟨O,U,V,X,Y,Z,h7,h8,h9,M⟩:=h.ext x;refine ⟨ρ,κ,O,U,V,X,Y,Z,h7,h8,λk G=>gq (h9 k G),λk G=>?_⟩;rcases G with G|⟨G,N⟩
 . exact M k G
 . refine ⟨λe=>?_,N⟩;rw [h.st.fresh k G] at e;rcases e with e|e|e
   . exact e
   . cases e
   . cases e
def Run.less (h:Run c P' w r) (M:∀k,c.S k->P k) (N:∀k,P k->P' k):Run c P w r:=by
 obtain ⟨ρ,κ,O,U,V,X,Y,Z,h7,h8,h9,G⟩:=h;exact ⟨ρ,κ,O,U,V,X,Y,Z,h7,h8,M,λk hk=>G k (N k hk)⟩
def Run.sub (h:Run c P w r):∀k,c.S k->P k:=by
 obtain ⟨_,_,h⟩:=h;exact h.sub
def RunA (c:RC) (P:nP) (X:Except Int Rn) (w:wD):Ending->wD->Prop:=λe w'=> ∃r,e = .returned (.tuple #[])/\X = .ok r/\Run c P w' r/\Fr (λk=> ¬P k) w w'
def RunA.ret (h:RunA c P Z w e w'):∃v,e = .returned v:=by
 obtain ⟨_,h,-⟩:=h;exact ⟨_,h⟩
def QM {α:Type} (P:nP) (X:Except Int α) (w:wD) (ch:List PanicEntry) (w':wD):Prop:= ∃er,X = .error er/\ch=Mx er/\Fr (λk=> ¬P k) w w'
def Dx (c:RC) (P:nP) (X:Except Int Rn) (w:wD):Ending->wD->Prop:=TX (RunA c P X w) (QM P X w)
def ValA (c:RC) (P:nP) (X:Except Int (Bool×Rn)) (w:wD):Ending->wD->Prop:=λe w'=> ∃u r,e = .returned (.bool u)/\X = .ok (u,r)/\Run c P w' r/\Fr (λk=> ¬P k) w w'
def ValA.ret {X:Except Int (Bool×Rn)} (h:ValA c P X w e w'):∃v,e = .returned v:=by
 obtain ⟨_,_,h,-⟩:=h;exact ⟨_,h⟩
def Zg (c:RC) (P:nP) (X:Except Int (Bool×Rn)) (w:wD):Ending->wD->Prop:=TX (ValA c P X w) (QM P X w)
def ExpA (X:Except Int Int) (w:wD):Ending->wD->Prop:=λe w'=> ∃v,e = .returned (.int .i64 v)/\X = .ok v/\Ext w w'
def ExpA.ret {X:Except Int Int} (h:ExpA X w e w'):∃v,e = .returned v:=by
 obtain ⟨_,h,-⟩:=h;exact ⟨_,h⟩
def dL (X:Except Int Int) (w:wD) (ch:List PanicEntry) (w':wD):Prop:= ∃er,X = .error er/\ch=Mx er/\Ext w w'
def Sf (e:Int) (G:e≠0) (w:wD):Calls prog 209 #[.int .i64 e] w (TX (λ_ _=>False) (λh w'=>h=Mx e/\Ext w w')):=by
 have X:=iK w;refine Ad func209 ntmps209 rfl rfl (eK ?_);refine C1 (xB [_]) (C1 (TY AT rfl) (VJ rfl (AF ?_)));exact gt ⟨_,rfl,rfl,X⟩
def Stp.WF.mono {K:List (Int×Int)} {m m':Nat} {st:Stp} (h:st.WF K m) (G:m<=m'):st.WF K m':=⟨h.len,h.base,h.calls,h.cell,h.nc,λf M=>Nat.le_trans (h.vb f M) G⟩
def Run.tick (h:Run c P w r) (hr:0<r.rem) (x:Fr (· = c.rb) w w') (X:Blk w' c.rb [.slice c.va c.g.vars.length c.vc,.slice c.pa c.g.procs.length c.pc,.int .u8 c.g.main.kind,.int .i64 c.g.main.num,str c.g.main.name,.slice c.ma c.g.main.kids.length c.mc,.pointer (some ⟨c.sb,0,none⟩),.int .i64 ((c.fuel:Int)-r.rem+1),.int .i64 c.fuel,.slice (some ⟨c.eb,0,none⟩) c.g.procs.length c.ec]):Run c P w' ⟨r.st,r.rem-1⟩/\Fr (λk=> ¬P k) w w':=by
 obtain ⟨ρ,κ,O,U,h3,h4,⟨es,Y,Z⟩,h7,⟨K,h8⟩,h9,N,M⟩:=h;have hs:=x.size;have V:∀k,P k -> ¬k=c.rb:=λk G e=>(M k G).1 (by rw [e,O];exact gt (gq rfl))
 refine ⟨⟨ρ,κ,O,U,by simp only;omega,?_,⟨es,Y,Z.fr x (λe=>by rw [show c.eb=c.rb from e,O] at U;simp at U)⟩,h7.fr x (λk G e=>by rw [show k=c.rb from G,O] at e;exact e),⟨K,h8.mono (by simp only;omega)⟩,h9.frS x (λk G e=>V k (N k G) e),N,λk G=>⟨(M k G).1,by have:=(M k G).2;omega⟩⟩,x.weaken (λk G e=>V k e G)⟩;simp only;rw [show ((c.fuel:Int)-((r.rem-1:Nat):Int))=(c.fuel:Int)-r.rem+1 by omega];exact X
def My (hc:c.fuel<=10000) (w:wD) (h:Run c P w r):Calls prog 190 #[.pointer (some ⟨c.rb,0,none⟩)] w (Dx c P (Bn r) w):=by
 have X:=iK w;have N:=h.blk;have ab:=h.rem;have HI:=gp h;clear h;by_cases Y:r.rem=0
 . have e:Bn r = .error 18:=by unfold Bn;rw [AQ Y]
   rw [e];rw [Y] at N;have HF:=gp (λw1=>Sf 18 CH w1);refine Ad func190 ntmps190 rfl rfl (eK ?_);refine Aq (λO=>Ext w O) 8 (.pure 0 (.pure 1 (.pure 2 (.pure 3 (.pure 4 (.pure 5 (.pure 6 (.pure 7 .tail)))))))) mixed AT (Aa (Aa Ag)) ?_;intro w1 x2 _;have U:(λO=>Ext w O) w1:=x2;simp only at U;have G:=N;have X:=X.ext x2;refine ⟨U,?_⟩;refine Tq rfl Mv (Tq rfl Pn (Tq rfl Pf (Tq rfl (Db G) (Tq rfl Mv (Tq rfl Pn (Tq rfl Pf (Tq rfl (Db G) (At rfl (C1 V6 (cT (O8 (Al (Mu AT rfl (HF.out _) ?_)))))))))))));intro c5 w6 q7;refine AH (AF ?_);exact gt ⟨_,rfl,18,rfl,q7.1,iM (X.trans q7.2)⟩
 . have e:Bn r = .ok ⟨r.st,r.rem-1⟩:=by unfold Bn;rw [AB Y]
   rw [e];have F:=iP (· = c.rb) w;refine Ad func190 ntmps190 rfl rfl (eK ?_);refine Aq (λO=>Ext w O) 8 (.pure 0 (.pure 1 (.pure 2 (.pure 3 (.pure 4 (.pure 5 (.pure 6 (.pure 7 .tail)))))))) mixed AT (Aa (Aa Ag)) ?_;intro Z V _;have M:(λO=>Ext w O) Z:=V;simp only at M;have G:=N;revert N F;refine eE V ?_;intro N F;refine ⟨M,?_⟩;refine Tq rfl Mv (Tq rfl Pn (Tq rfl Pf (Tq rfl (Db G) (Tq rfl Mv (Tq rfl Pn (Tq rfl Pf (Tq rfl (Db G) (At rfl (eK ?_)))))))));refine eV [_] [_,_,_,_,_,_,_,_,_,_] N ?_;intro ac ad aa _;clear N;have F:=F.fr aa Ab;refine Ak (Bi rfl ?_);have h9:=HI.out.tick Ab F Af;exact gq ⟨_,rfl,rfl,h9.1,h9.2⟩
def Sg (e:Int) (w:wD):Ending->wD->Prop:=TX (λen w'=>en = .returned (.tuple #[])/\e=0/\Ext w w') (λch w'=>e≠0/\ch=Mx e/\Ext w w')
def In (e:Int) (p:Value) (w:wD):Calls prog 191 #[p,.int .i64 e] w (Sg e w):=by
 have X:=iK w;by_cases G:e=0
 . subst G;refine Ad func191 ntmps191 rfl rfl (cS (C1 Mv (C1 V2 (cT (Lb (Ao (Bi rfl ?_)))))));exact gq ⟨rfl,rfl,X⟩
 . have M:=gp (λw1=>Sf e G w1);refine Ad func191 ntmps191 rfl rfl (cS (C1 Mv (C1 V2 (cT (VH (Al (C1 Mv (Mu AT rfl (M.out _) ?_))))))));intro N O h;refine AF ?_;exact gt ⟨_,rfl,G,h.1,X.trans h.2⟩
def Mz {K:List (Int×Int)} {m sb:Nat} {st:Stp} (G:st.WF K m) (M:m<=1000000):KB st.look 220 [.pointer (some ⟨sb,0,none⟩)] (λw=>StoreAt ρ κ w sb st):=λs w N=>aR G M s w N.h
def aW (U:c.fuel<=10000) (t:Nd) (M:t.wf) (N:t.isExpr=true) (a:oA) (m:Nat) (S:nP) (w:wD) (O:t.sits S w a) (h:Run c P w r) :
 Calls prog 219 #[t.val a m,.func (.func 220) #[.pointer (some ⟨c.sb,0,none⟩)] #[]] w λe w'=>e = .returned (.tuple #[.bool (decide ((A7 r.st.look t).1≠0)),.int .i64 (A7 r.st.look t).2])/\Ext w w':=by
 obtain ⟨ρ,κ,h⟩:=h;obtain ⟨K,G⟩:=h.wf;exact Zd AT (Mz (ρ:=ρ) (κ:=κ) (sb:=c.sb) G Ab) t M N S a m w O (EA h.st)
def aX (U:c.fuel<=10000) (t:Nd) (M:t.wf) (N:t.isExpr=true) (a:oA) (m:Nat) (S:nP) (w:wD) (O:t.sits S w a) (h:Run c P w r) :
 Calls prog 221 #[t.val a m,.func (.func 220) #[.pointer (some ⟨c.sb,0,none⟩)] #[]] w (cL (A7 r.st.look t) w):=by
 obtain ⟨ρ,κ,h⟩:=h;obtain ⟨K,G⟩:=h.wf;exact OL AT (Mz (ρ:=ρ) (κ:=κ) (sb:=c.sb) G Ab) t M N S a m w O (EA h.st)
def Tt (hc:c.fuel<=10000) (t:Nd) (hw:t.wf) (hx:t.isExpr=true) (a:oA) (m:Nat) (S:nP) (w:wD) (hs:t.sits S w a) (h:Run c P w r) :
 Calls prog 208 #[.pointer (some ⟨c.rb,0,none⟩),t.val a m] w (TX (ExpA (B4 t r) w) (dL (B4 t r) w)):=by
 have X:=iK w;have M:=B5 _ _ hs;have HE:=gp (λw1 h1 h2=>aX (c:=c) (P:=P) (r:=r) hc t hw hx a m (· < w.heap.size) w1 h1 h2);have HC:=gp (λe w1=>In e (.pointer (some ⟨c.rb,0,none⟩)) w1);unfold Sg at HC;have e1:B4 t r=if (A7 r.st.look t).2≠0 then .error (A7 r.st.look t).2 else .ok (A7 r.st.look t).1:=rfl
 rw [e1];clear hs e1;generalize A7 r.st.look t=v at *;obtain ⟨k,n,s,l⟩:=t;refine Ad func208 ntmps208 rfl rfl ?_
 focus
  refine cS (eB [_,_,_,_] ?_);intro b1 w2 h4 x5 _ _;revert h X M;refine eE x5 ?_;intro h X M;refine eK ?_;refine Aq (λO=>Ext w2 O) 11 (.pure 0 (.pure 1 (.pure 2 (.pure 3 (.pure 4 (.pure 5 (.fork 6 (.pure 7 (.pure 8 (.pure 9 (.pure 10 .tail)))) .none))))))) mixed AT (Aa Ag) ?_;intro w8 x9 _;have G:(λO=>Ext w2 O) w8:=x9;simp only at G;have U:=h4;have V:=h;revert h X M;refine eE x9 ?_;intro h X M;refine ⟨G,?_⟩;refine Tq rfl (xL [_,_,_,_] (λO Y=>(iW U Y))) (eT ?_);refine Tq rfl (Ap Ac rfl rfl rfl (λO Y=>iV (iW (Run.blk V) Y) rfl)) (Tq rfl (Eo rfl rfl) (tC rfl rfl (HE.out _ Af Af) ?_));rintro _ ab ⟨⟨⟩,Z⟩;revert G X;refine eE Z ?_;intro G X;refine ⟨G,?_⟩;refine Tq rfl Mv (Tq rfl Px (Tq rfl Px (Tq rfl Pa (At rfl (eK ?_)))));refine A4 (AL AT rfl (HC.out _ _) (λ_ _ h=>⟨_,h.1⟩)) rfl ?_ ?_;rotate_left;intro ac ad N
  rotate_right 1
  rintro _ ae ⟨⟨⟩,af,aa⟩;have X:=X.ext aa;refine kR ?_;rotate_left;refine AH (AF ?_);rotate_left
 . exact gq ⟨_,rfl,by rw [AB Ab],X⟩
 . exact gt ⟨_,rfl,v.2,by rw [AQ N.1],N.2.1,X.trans N.2.2⟩
def OM (hc:c.fuel<=10000) (t:Nd) (hw:t.wf) (hx:t.isExpr=true) (a:oA) (m:Nat) (w:wD) (hs:t.sits P w a) (h:Run c P w r) :
 Calls prog 206 #[.pointer (some ⟨c.rb,0,none⟩),t.val a m] w (Zg c P (BZ t r) w):=by
 have X:=iK w;have HR:=gp h;clear h;have e1:∀N,Bn r = .ok N->BZ t r=if (A7 N.st.look t).2≠0 then .error (A7 N.st.look t).2 else .ok (decide ((A7 N.st.look t).1≠0),N):=λN h1=>by
  unfold BZ;rw [h1];by_cases hv:(A7 N.st.look t).2≠0
  . simp only [gL,B4,AQ hv]
  . simp only [gL,B4,AB hv]
 have e2:∀er,Bn r = .error er->BZ t r = .error er:=λer h1=>by unfold BZ;rw [h1];rfl
 have HC:=gp (λe w1=>In e (.pointer (some ⟨c.rb,0,none⟩)) w1);unfold Sg at HC;have HT:=λPP N w1 h1 h2=>aW (c:=c) (P:=PP) (r:=N) hc t hw hx a m P w1 h1 h2
 obtain ⟨k,n,s,l⟩:=t;change Calls prog _ #[_,.agg #[.int .u8 k,.int .i64 n,str s,.slice a l.length m]] w _;refine Ad func206 ntmps206 rfl rfl (cS (eB [_,_,_,_] ?_));intro b1 w2 h4 x5 p6 z7;revert X hs;refine eE x5 ?_;intro X hs;refine C1 Pa (cT ?_);have h1:=HR.out.more X;have HS:=gp (λN w1 h=>My (c:=c) (P:=B9 P w w2) (r:=N) hc w1 h);unfold Dx at HS;have HT:=gp (HT (B9 P w w2));have F:Fr (λk=> ¬P k) w w2:=iM X;clear X
 focus
  refine eK ?_;refine A4 (AL AT rfl (HS.out _ _ Af) (λ_ _ h=>h.ret)) rfl ?_ ?_;rotate_left;intro am an ag
  rotate_right 1
  rintro _ V ⟨aa,⟨⟩,Y,G,ab⟩;revert h4 hs F;refine eF ab ?_;intro h4 hs F;refine eK ?_;refine Aq (λwz=>Ext V wz) 11 (.pure 0 (.pure 1 (.pure 2 (.pure 3 (.pure 4 (.pure 5 (.fork 6 (.pure 7 (.pure 8 (.pure 9 (.pure 10 .tail)))) .none))))))) mixed AT (Aa Ag) ?_;intro ac Z _;have M:(λwz=>Ext V wz) ac:=Z;simp only at M;have U:=G;have ad:=h4;revert G hs F;refine eE Z ?_;intro G hs F;refine ⟨M,?_⟩;refine Tq rfl (xL [_,_,_,_] (λwz hz=>(iW ad hz))) (eT ?_);refine Tq rfl (Ap Ac rfl rfl rfl (λwz hz=>iV (iW (Run.blk U) hz) rfl)) (Tq rfl (Eo rfl rfl) (tC rfl rfl (HT.out _ _ Af Af) ?_));rintro _ ah ⟨⟨⟩,ae⟩;revert M G F;refine eE ae ?_;intro M G F;refine ⟨M,?_⟩;refine Tq rfl Mv (Tq rfl Px (Tq rfl Px (Tq rfl Pa (At rfl (eK ?_)))));refine A4 (AL AT rfl (HC.out _ _) (λ_ _ h=>⟨_,h.1⟩)) rfl ?_ ?_;rotate_left;intro ai aj O
  rotate_right 1
  rintro _ ak ⟨⟨⟩,al,af⟩;revert G F;refine eE af ?_;intro G F;refine kR ?_;rotate_left;refine AH (AF ?_);rotate_left;refine AH (AF ?_);rotate_left
 . exact gq ⟨_,aa,rfl,by rw [e1 _ Y,AB Ab],G.less HR.out.sub (λk=>gq),F⟩
 . exact gt ⟨_,rfl,_,by rw [e1 _ Y,AQ O.1],O.2.1,F.ext O.2.2⟩
 . obtain ⟨er,g1,g2,g3⟩:=ag;exact gt ⟨_,rfl,er,e2 _ g1,g2,F.fr g3 (λk hk=>gq (λh=>hk (gq h)))⟩
def QN (hc:c.fuel<=10000) (G:Bool) (t:Nd) (hw:t.wf) (hx:t.isExpr=true) (a:oA) (m:Nat) (w:wD) (hs:t.sits P w a) (h:Run c P w r) :
 Calls prog 207 #[.pointer (some ⟨c.rb,0,none⟩),t.val a m,.bool G] w (Dx c P (BH t G r) w):=by
 have X:=iK w;have HR:=gp h;clear h;have e1:∀q r1,BZ t r = .ok (q,r1)->BH t G r=if q≠G then .error 15 else .ok r1:=λq r1 O=>by
  unfold BH;rw [O];rfl
 have e2:∀U,BZ t r = .error U->BH t G r = .error U:=λU O=>by unfold BH;rw [O];rfl
 have HF:=gp (λw1=>Sf 15 CH w1);have HH:=λPP w1 O h2=>OM (c:=c) (P:=PP) (r:=r) hc t hw hx a m w1 O h2
 obtain ⟨k,n,s,l⟩:=t;change Calls prog _ #[_,.agg #[.int .u8 k,.int .i64 n,str s,.slice a l.length m],_] w _;refine Ad func207 ntmps207 rfl rfl (cS (eB [_,_,_,_] ?_));intro b1 w2 h4 x5 _ _;revert X hs;refine eE x5 ?_;intro X hs;refine cT ?_;have O:=HR.out.more X;have HH:=gp (HH (B9 P w w2));unfold Zg at HH;have F:Fr (λk=> ¬P k) w w2:=iM X;clear X
 focus
  refine eK ?_;refine A4 (AL AT rfl (HH.out _ (iR Af (λb h=>gq h)) Af) (λ_ _ h=>h.ret)) rfl ?_ ?_;rotate_left;intro ag ah ab
  rotate_right 1
  rintro _ ac ⟨ad,V,⟨⟩,M,Y,Z⟩;have F:=iU F Z (λk hk=>gq (λh=>hk (gq h)));refine C1 Mv (C1 (Mw Ac rfl rfl rfl) (cT (BN rfl (λaa=>?_) (λaa=>?_))));refine Al (Mu AT rfl (HF.out _) ?_);intro ae af N;refine AF ?_;rotate_left;refine Ao (Bi rfl ?_);rotate_left;refine AH (AF ?_);rotate_left
 . exact gt ⟨_,rfl,15,by rw [e1 _ _ M,AQ Af],N.1,F.ext N.2⟩
 . exact gq ⟨V,rfl,by rw [e1 _ _ M,AB (λh=>h Af)],Y.less HR.out.sub (λk=>gq),F⟩
 . obtain ⟨U,g1,g2,g3⟩:=ab;exact gt ⟨_,rfl,U,e2 _ g1,g2,F.fr g3 (λk hk=>gq (λh=>hk (gq h)))⟩
end
def JI {P:Program} {l:Sl} {tab:Tab} {sz:Nat} {w:wD} {fn:Func} {R:Ending->wD->Prop} {N b b':Nat} {sk V:Sk} {vs:lV} (h:fn.results = #[.cell i N,.cell g d]) (T:TabOk P tab) (ht:Az tab N=some (sk,sz)) (X:Az tab d=some (V,c)) (hs:sk.agg=true) (aa:V.agg=true)
 (hv:look l i=some (.pointer (some ⟨b,0,none⟩))) (ab:look l g=some (.pointer (some ⟨b',0,none⟩))) (hb:Blk w b vs) (ac:Blk w b' cs) (hl:vs.length=sz) (ad:cs.length=c) (hR:R (.returned (.tuple #[.agg vs.toArray,.agg cs.toArray])) w):QW n (bodyPost P fn R) .ret l w:=by
 unfold QW;intro a ha;refine ⟨ha.defers,.tuple #[.agg vs.toArray,.agg cs.toArray],?_,hR⟩;have e:(loadVar N ⟨b,0,none⟩).run P w = .ok (.agg vs.toArray) w:=by
  simp only [gE,gP,gw,loadVar,Co (T _ _ _ ht),hs,if_true,B3 (T _ _ _ ht)];rw [<-hl,Cr hb.row]
 have e':(loadVar d ⟨b',0,none⟩).run P w = .ok (.agg cs.toArray) w:=by
  simp only [gE,gP,gw,loadVar,Co (T _ _ _ X),aa,if_true,B3 (T _ _ _ X)];rw [<-ad,Cr ac.row]
 have Y:=ha.has i _ hv;have Z:=ha.has g _ ab;simp only [Array.getD_eq_getD_getElem?] at Y Z;simp [results,h,Y,Z,e,e',asAddr]
section
variable {c:RC} {P P':nP} {w w':wD} {r:Rn} {T:nP}
def QO (c:RC) (P:nP) (rem:Nat) (x:Int×Stp) (w:wD):Ending->wD->Prop:=λe w'=>e = .returned (.int .i64 x.1)/\Run c P w' ⟨x.2,rem⟩/\Fr (λk=> ¬(P k\/k=c.rb)) w w'
def RunAt.store {ρ:Nat->Rl} {κ:Nat->Nat} (h:RunAt c P ρ κ w r) {st:Stp} {x:Int} (U:∃K,st.WF K (1000+(c.fuel-r.rem))) (hs:StR ρ c.sb st x w e w'):QO c P r.rem (x,st) w e w':=by
 obtain ⟨ρ',κ',h1,V,h3,N⟩:=hs;obtain ⟨X,Y,k3,Z,⟨es,k5,k6⟩,k7,k8,k9,O,M⟩:=h;have hz:=N.size;have hP:∀k,P k -> ¬Mi (ρ k):=λk G e=>(M k G).1 (gq e)
 refine ⟨h1,⟨ρ',κ',by rw [V _ Z.lt,X],by rw [V _ k6.lt,Y],k3,Z.fr N (λe=>by rw [X] at e;exact e),⟨es,k5,k6.fr N (λe=>by rw [Y] at e;exact e)⟩,h3,U,k9.frS N (λk G e=>hP k (O k G) e),O,λk G=>⟨?_,by have:=(M k G).2;omega⟩⟩,N.weaken (λk G e=>by rcases e with e|e;exact hP k e G;rw [e,X] at G;exact G)⟩;rw [V _ (M k G).2];exact (M k G).1
def aY (Z:c.fuel<=10000) (v:VD) (M:v.kind=1\/v.kind=3) (O:v.len=0) (x:Int) (w:wD) (h:Run c P w r) (hr:r.rem<c.fuel) {m:Nat} (U:∃K,r.st.WF K (1000+m)) (V:m<c.fuel-r.rem) :
 Calls prog 192 #[.pointer (some ⟨c.sb,0,none⟩),v.val,.int .i64 x] w (QO c P r.rem (r.st.opens v x) w):=by
 obtain ⟨ρ,κ,h⟩:=h;obtain ⟨K,N⟩:=U;refine ir (aS N Ab v M O x w h.st) λe w' X=>h.store ?_ X
 obtain ⟨Y,G⟩:=N.opens M x;exact ⟨Y,G.mono Ab⟩
def Tu (N:c.fuel<=10000) (s:lB) (x:Int) (w:wD) (h:Run c P w r):Calls prog 193 #[.pointer (some ⟨c.sb,0,none⟩),str s,.int .i64 x] w (QO c P r.rem (r.st.closes s x) w):=by
 obtain ⟨ρ,κ,h⟩:=h;obtain ⟨K,G⟩:=h.wf;exact ir (Zb G Ab s x w h.st) λe w' M=>h.store ⟨K,G.closes s x⟩ M
def Zh (N:c.fuel<=10000) (w:wD) (h:Run c P w r):Calls prog 213 #[.pointer (some ⟨c.sb,0,none⟩)] w (QO c P r.rem (r.st.leaves) w):=by
 obtain ⟨ρ,κ,h⟩:=h;obtain ⟨K,G⟩:=h.wf;exact ir (Za G w h.st) λe w' M=>h.store ⟨K,G.leaves⟩ M
def Zi (hc:c.fuel<=10000) (ps:List VD) (G:List lB) (X:ps.length<=1000) (M N:oA) (O U:Nat) (w:wD) (h:Run c P w r) (Y:VDs P w ps M) (Z:Rows P w (G.map str) N) :
 Calls prog 212 #[.pointer (some ⟨c.sb,0,none⟩),.slice M ps.length O,.slice N G.length U] w (QO c P r.rem (r.st.enters ps G) w):=by
 obtain ⟨ρ,κ,h⟩:=h;obtain ⟨K,V⟩:=h.wf;exact ir (Zc (S:=P) V Ab ps G Ab (λk hk e=>(h.off k hk).1 (gq e)) M N O U w h.st Y Z) λe w' hs=>h.store ⟨K,V.enters Ab G⟩ hs
def fC (Y:c.fuel<=10000) {n:Int} (V:(40<=k/\k<=49)\/k=56) (G:(Nd.mk k n s l).isStmt=true) (M:(Nd.mk k n s l).wf) (X:(Nd.mk k n s l).size<=1000000) (a:oA) (O:Nat) (w:wD) (N:rowSits P w l a) (h:Run c P w r) :
 Calls prog 196 #[.pointer (some ⟨c.sb,0,none⟩),.agg #[.int .u8 k,.int .i64 n,str s,.slice a l.length O]] w (QO c P r.rem (r.st.run1 k n s l) w):=by
 obtain ⟨ρ,κ,h⟩:=h;obtain ⟨K,U⟩:=h.wf;exact ir (dJ U Ab V G M X a O w N h.st) λe w' N=>h.store ⟨K,U.run1 k n s l⟩ N
def aZ (Y:c.fuel<=10000) {n:Int} (V:(40<=k/\k<=49)\/k=56) (G:(Nd.mk k n s l).isStmt=true) (M:(Nd.mk k n s l).wf) (X:(Nd.mk k n s l).size<=1000000) (a:oA) (O:Nat) (w:wD) (N:rowSits P w l a) (h:Run c P w r) :
 Calls prog 195 #[.pointer (some ⟨c.sb,0,none⟩),.agg #[.int .u8 k,.int .i64 n,str s,.slice a l.length O]] w (QO c P r.rem (r.st.run1 (Ck k) n s l) w):=by
 obtain ⟨ρ,κ,h⟩:=h;obtain ⟨K,U⟩:=h.wf;exact ir (aV U Ab V G M X a O w N h.st) λe w' N=>h.store ⟨K,U.run1 (Ck k) n s l⟩ N
def EB {G:Rn} (h:Run c P' w' G) (F:Fr (λk=> ¬P k) w w') (M:∀k,c.S k->P k) (N:∀k,P k->P' k) (e:Z = .ok G):Dx c P Z w (.returned (.tuple #[])) w':=gq ⟨G,rfl,e,h.less M N,F⟩
def Bx {α:Type} {X:Except Int α} {M:List PanicEntry} (q:QM P' X w1 M w') (F:Fr (λk=> ¬P k) w w1) (N:∀k,P k->P' k) (e:∀G,X = .error G->Z = .error G):Dx c P Z w (.panicked M) w':=by
 obtain ⟨G,O,U,V⟩:=q;exact gt ⟨_,rfl,G,e _ O,U,F.fr V (λk Y=>gq (λh=>Y (N k h)))⟩
def QP (h:i<l.length):l[i]? = some (B0 l i):=by
 unfold B0;rw [gY,gm h];rfl
def EndsA (P:nP) (f l:Nd) (w:wD):Ending->wD->Prop:=λe w'=> ∃a m a' m',e = .returned (.tuple #[f.val a m,l.val a' m'])/\f.sits P w' a/\l.sits P w' a'/\Ext w w'
def EndsA.ret {f l:Nd} (h:EndsA P f l w e w'):∃v,e = .returned v:=by
 obtain ⟨_,_,_,_,h,-⟩:=h;exact ⟨_,h⟩
def Sh {n:Int} (hl:2<=l.length) (ch:l.length<=1000000) (aa:Bool) (a:oA) (c0:Nat) (w:wD) (hs:rowSits P w l a) (Z:∀k,P k->k<w.heap.size) :
 Calls prog 205 #[.agg #[.int .u8 k,.int .i64 n,str s,.slice a l.length c0],.bool aa] w (EndsA P (if aa then B0 l (l.length-1) else B0 l 0) (if aa then B0 l 0 else B0 l (l.length-1)) w):=by
 have X:=iK w;obtain ⟨kb,ko,rfl,ci,ak⟩:=BI hs (by intro e;subst e;simp at hl);obtain ⟨xa,xc,rx,O⟩:=ak 0 _ (QP Ab);obtain ⟨ya,yc,ry,U⟩:=ak (l.length-1) _ (QP Ab);clear ak hs;generalize B0 l 0=x at *;generalize B0 l (l.length-1)=y at *;obtain ⟨xk,xn,xs,xl⟩:=x;obtain ⟨yk,yn,ys,yl⟩:=y;replace rx:Row w ⟨kb,ko+0*4,none⟩ [.int .u8 xk,.int .i64 xn,str xs,.slice xa xl.length xc]:=rx;have hi:((l.length:Int)-1).toNat=l.length-1:=by omega
 replace ry:Row w ⟨kb,ko+((l.length:Int)-1).toNat*4,none⟩ [.int .u8 yk,.int .i64 yn,str ys,.slice ya yl.length yc]:=by rw [hi];exact ry
 refine Ad func205 ntmps205 rfl rfl ?_
 focus
  refine cS (eB [_,_,_,_] ?_);intro b1 w2 h4 x5 p6 z7;revert X O U rx ry;refine eE x5 ?_;intro X O U rx ry;refine eA [_,_,_,_] ?_;intro b8 w9 M bu cj ck;revert h4 X O U rx ry;refine eE bu ?_;intro h4 X O U rx ry;refine eA [_,_,_,_] ?_;intro cl bf G bv cm cn;revert M h4 X O U rx ry;refine eE bv ?_;intro M h4 X O U rx ry;refine eK ?_;refine Aq (λY=>Ext bf Y) 15 (.pure 0 (.pure 1 (.pure 2 (.pure 3 (.pure 4 (.pure 5 (.pure 6 (.pure 7 (.pure 8 (.pure 9 (.pure 10 (.pure 11 (.fork 12 (.fork 13 (.fork 14 .tail .none) .none) (.fork 13 (.fork 12 (.fork 14 .tail .none) .none) .none)))))))))))))) mixed AT (Aa Ag) ?_;intro bw bg _;have N:(λY=>Ext bf Y) bw:=bg;simp only at N;have b7:=h4;have bh:=rx;have bi:=ry;revert G M X O U;refine eY bg ?_;intro co G M X O U;refine ⟨N,?_⟩;refine eT ?_;refine Tq rfl (CK [_,_,_,_] Ac rfl rfl rfl (λY hz=>(iO bh hz)) rfl rfl) (eT ?_);refine Tq rfl (AK rfl rfl (gz _ Ab)) (Tq rfl Pi (Tq rfl (BE Ac rfl rfl rfl (λY hz=>(iO bi hz)) rfl) (AE rfl (Bb Cs rfl) rfl ?_ aFh ?kr28)));rintro _ cp ⟨cq,rfl,ap⟩;have aq:=ap.blk;dsimp only at aq;have bx:=ap.ext;have cr:=ap.pos;have ct:=ap.size;revert N G M X O U;refine eE bx ?_;intro N G M X O U;refine ⟨N,?_⟩;refine AE rfl (Bb Cs rfl) rfl ?_ aFh AD;rintro _ cu ⟨cv,rfl,ar⟩;have au:=ar.blk;dsimp only at au;have bz:=ar.ext;have cw:=ar.pos;have cx:=ar.size;revert aq N G M X O U;refine eE bz ?_;intro aq N G M X O U;refine ⟨N,?_⟩;refine De [_,_,_,_] [_,_,_,_] rfl Ac rfl rfl rfl rfl rfl rfl aq rfl rfl ?_ AD;intro cy a5;have av:=a5.blk;have a6:=a5.fr;have cz:=a5.size;revert au N G M X;refine eF a6 ?_;intro au N G M X;have O:=iL O a6 (λb V h=>by (have h1:=Z b V;have e:b=_:=h;omega));have U:=iL U a6 (λb V h=>by (have h1:=Z b V;have e:b=_:=h;omega));refine ⟨N,?_⟩;refine At rfl (eS [_,_,_,_] au ?_);intro aw bj a7 z53;revert av G M X;refine eF a7 ?_;intro av G M X;have O:=iL O a7 (λb V h=>by (have h1:=Z b V;have e:b=_:=h;omega));have U:=iL U a7 (λb V h=>by (have h1:=Z b V;have e:b=_:=h;omega));refine cT (Aj ?_);rotate_left;refine AE rfl (Bb Cs rfl) rfl ?_ aFh AD;rintro _ c1 ⟨c2,rfl,ax⟩;have aj:=ax.blk;dsimp only at aj;have b0:=ax.ext
  have c3:=ax.pos;have c4:=ax.size;revert N G M X O U;refine eE b0 ?_;intro N G M X O U;refine ⟨N,?_⟩;refine AE rfl (Bb Cs rfl) rfl ?_ aFh AD;rintro _ c5 ⟨c6,rfl,ay⟩;have bk:=ay.blk;dsimp only at bk;have b2:=ay.ext;have c7:=ay.pos;have c8:=ay.size;revert aj N G M X O U;refine eE b2 ?_;intro aj N G M X O U;refine ⟨N,?_⟩;refine De [_,_,_,_] [_,_,_,_] rfl Ac rfl rfl rfl rfl rfl rfl bk rfl rfl ?_ AD;intro c9 a8;have az:=a8.blk;have a9:=a8.fr;have da:=a8.size;revert aj N G M X;refine eF a9 ?_;intro aj N G M X;have O:=iL O a9 (λb V h=>by (have h1:=Z b V;have e:b=_:=h;omega));have U:=iL U a9 (λb V h=>by (have h1:=Z b V;have e:b=_:=h;omega));refine ⟨N,?_⟩;refine At rfl (eS [_,_,_,_] aj ?_);intro a0 bl ba db;revert az G M X;refine eF ba ?_;intro az G M X;have O:=iL O ba (λb V h=>by (have h1:=Z b V;have e:b=_:=h;omega));have U:=iL U ba (λb V h=>by (have h1:=Z b V;have e:b=_:=h;omega));refine cT (Aj ?_);rotate_left
 . cases aa
   . refine eK ?_;refine Aq (λY=>Fr (λx=>x=b8) aw Y) 3 (.pure 0 (.pure 1 (.fork 2 .tail .none))) mixed AT (Aa Ag) ?_;intro b3 bm _;have ab:(λY=>Fr (λx=>x=b8) aw Y) b3:=iM bm;simp only at ab;have af:=bj;have ag:=av;revert G M X O U;refine eE bm ?_;intro G M X O U;refine ⟨ab,?_⟩;refine Tq rfl (xL [_,_,_,_] (λY hz=>(iN ag hz (by first|omega|(dsimp only;omega))))) (Tq rfl (xL [_,_,_,_] (λY hz=>(iN af hz (by first|omega|(dsimp only;omega))))) ?_);refine De [_,_,_,_] [_,_,_,_] rfl Ac rfl rfl rfl rfl rfl rfl M rfl rfl ?_ AD;intro dc bn;have a1:=bn.blk;have bb:=bn.fr;revert ab G X;refine eF bb ?_;intro ab G X;have O:=iL O bb (λb V h=>by (have h1:=Z b V;have e:b=_:=h;omega));have U:=iL U bb (λb V h=>by (have h1:=Z b V;have e:b=_:=h;omega));refine ⟨ab,?_⟩;refine At rfl (eS [_,_,_,_] G ?_);intro b9 ca al _;revert a1 X;refine eF al ?_;intro a1 X;have O:=iL O al (λb V h=>by (have h1:=Z b V;have e:b=_:=h;omega));have U:=iL U al (λb V h=>by (have h1:=Z b V;have e:b=_:=h;omega));refine cT (AM (JI rfl Ac rfl rfl rfl rfl rfl rfl Af Af rfl rfl ?_));exact ⟨_,_,_,_,rfl,O,U,X⟩
   . refine eK ?_;refine Aq (λY=>Fr (λx=>x=b8) aw Y) 3 (.pure 0 (.pure 1 (.fork 2 .tail .none))) mixed AT (Aa (Aa Ag)) ?_;intro b4 bo _;have ac:(λY=>Fr (λx=>x=b8) aw Y) b4:=iM bo;simp only at ac;have af:=bj;have ag:=av;revert G M X O U;refine eE bo ?_;intro G M X O U;refine ⟨ac,?_⟩;refine Tq rfl (xL [_,_,_,_] (λY hz=>(iN af hz (by first|omega|(dsimp only;omega))))) (Tq rfl (xL [_,_,_,_] (λY hz=>(iN ag hz (by first|omega|(dsimp only;omega))))) ?_);refine De [_,_,_,_] [_,_,_,_] rfl Ac rfl rfl rfl rfl rfl rfl M rfl rfl ?_ AD;intro dd bp;have a2:=bp.blk;have bc:=bp.fr;revert ac G X;refine eF bc ?_;intro ac G X;have O:=iL O bc (λb V h=>by (have h1:=Z b V;have e:b=_:=h;omega));have U:=iL U bc (λb V h=>by (have h1:=Z b V;have e:b=_:=h;omega));refine ⟨ac,?_⟩;refine At rfl (eS [_,_,_,_] G ?_);intro cb cc am _;revert a2 X;refine eF am ?_;intro a2 X;have O:=iL O am (λb V h=>by (have h1:=Z b V;have e:b=_:=h;omega));have U:=iL U am (λb V h=>by (have h1:=Z b V;have e:b=_:=h;omega));refine eK ?_;refine JI rfl Ac rfl rfl rfl rfl rfl rfl Af Af rfl rfl ?_;exact ⟨_,_,_,_,rfl,U,O,X⟩
 . cases aa
   . refine eK ?_;refine Aq (λY=>Fr (λx=>x=b8) a0 Y) 3 (.pure 0 (.pure 1 (.fork 2 .tail .none))) mixed AT (Aa Ag) ?_;intro b5 bq _;have ad:(λY=>Fr (λx=>x=b8) a0 Y) b5:=iM bq;simp only at ad;have ah:=bl;have ai:=az;revert G M X O U;refine eE bq ?_;intro G M X O U;refine ⟨ad,?_⟩;refine Tq rfl (xL [_,_,_,_] (λY hz=>(iN ai hz (by first|omega|(dsimp only;omega))))) (Tq rfl (xL [_,_,_,_] (λY hz=>(iN ah hz (by first|omega|(dsimp only;omega))))) ?_);refine De [_,_,_,_] [_,_,_,_] rfl Ac rfl rfl rfl rfl rfl rfl M rfl rfl ?_ AD;intro de br;have a3:=br.blk;have bd:=br.fr;revert ad G X;refine eF bd ?_;intro ad G X;have O:=iL O bd (λb V h=>by (have h1:=Z b V;have e:b=_:=h;omega));have U:=iL U bd (λb V h=>by (have h1:=Z b V;have e:b=_:=h;omega));refine ⟨ad,?_⟩;refine At rfl (eS [_,_,_,_] G ?_);intro cd ce an _;revert a3 X;refine eF an ?_;intro a3 X;have O:=iL O an (λb V h=>by (have h1:=Z b V;have e:b=_:=h;omega));have U:=iL U an (λb V h=>by (have h1:=Z b V;have e:b=_:=h;omega));refine cT (AM (JI rfl Ac rfl rfl rfl rfl rfl rfl Af Af rfl rfl ?_));exact ⟨_,_,_,_,rfl,O,U,X⟩
   . refine eK ?_;refine Aq (λY=>Fr (λx=>x=b8) a0 Y) 3 (.pure 0 (.pure 1 (.fork 2 .tail .none))) mixed AT (Aa (Aa Ag)) ?_;intro b6 bs _;have ae:(λY=>Fr (λx=>x=b8) a0 Y) b6:=iM bs;simp only at ae;have ah:=bl;have ai:=az;revert G M X O U;refine eE bs ?_;intro G M X O U;refine ⟨ae,?_⟩;refine Tq rfl (xL [_,_,_,_] (λY hz=>(iN ah hz (by first|omega|(dsimp only;omega))))) (Tq rfl (xL [_,_,_,_] (λY hz=>(iN ai hz (by first|omega|(dsimp only;omega))))) ?_);refine De [_,_,_,_] [_,_,_,_] rfl Ac rfl rfl rfl rfl rfl rfl M rfl rfl ?_ AD;intro df bt;have a4:=bt.blk;have be:=bt.fr;revert ae G X;refine eF be ?_;intro ae G X;have O:=iL O be (λb V h=>by (have h1:=Z b V;have e:b=_:=h;omega));have U:=iL U be (λb V h=>by (have h1:=Z b V;have e:b=_:=h;omega));refine ⟨ae,?_⟩;refine At rfl (eS [_,_,_,_] G ?_);intro cf cg ao _;revert a4 X;refine eF ao ?_;intro a4 X;have O:=iL O ao (λb V h=>by (have h1:=Z b V;have e:b=_:=h;omega));have U:=iL U ao (λb V h=>by (have h1:=Z b V;have e:b=_:=h;omega));refine eK ?_;refine JI rfl Ac rfl rfl rfl rfl rfl rfl Af Af rfl rfl ?_;exact ⟨_,_,_,_,rfl,U,O,X⟩
end
mutual
def bA (ps:List PD):Nd->Prop
 | .mk k _ s l=>((k=50\/k=51)->(CA ps s).isSome=true)/\WW ps l
def WW (ps:List PD):List Nd->Prop
 | []=>True
 | t::r=>bA ps t/\WW ps r
end
def JJ {ps:List PD}:∀ {l:List Nd} {i:Nat} {t:Nd},WW ps l->l[i]? = some t->bA ps t
 | x::r,0,t,h,e=>by simp only [gX,gy] at e;subst e;exact h.1
 | x::r,i+1,t,h,e=>JJ h.2 (by simpa using e)
 | [],_,_,_,e=>by simp at e
def Hu:∀ {l:List Nd} {i:Nat} {t:Nd},DP l=true->l[i]? = some t->t.isStmt=true
 | x::r,0,t,h,e=>by simp only [gX,gy] at e;subst e;simp only [DP,gu] at h;exact h.1
 | x::r,i+1,t,h,e=>by simp only [DP,gu] at h;exact Hu h.2 (by simpa using e)
 | [],_,_,_,e=>by simp at e
structure StOk (ps:List PD) (t:Nd):Prop where
 wf:t.wf
 size:t.size<=1000000
 calls:bA ps t
def WX (c:RC) (d:Nat):Prop:= ∀(P:nP) (b:Bool) (t:Nd) (r:Rn) (a:oA) (m:Nat) (w:wD),t.isStmt=true->StOk c.g.procs t->AI c.g.procs d b t r≠.error (-1)->t.sits P w a->Run c P w r ->
 Calls prog 162 #[.pointer (some ⟨c.rb,0,none⟩),t.val a m,.bool b] w (Dx c P (AI c.g.procs d b t r) w)
def EC (c:RC) (d:Nat):Prop:= ∀(P:nP) (b:Bool) (t:Nd) (r:Rn) (a:oA) (m:Nat) (w:wD),t.isBlock=true->StOk c.g.procs t->AW (AI c.g.procs d) b t r≠.error (-1)->t.sits P w a->Run c P w r ->
 Calls prog 121 #[.pointer (some ⟨c.rb,0,none⟩),t.val a m,.bool b] w (Dx c P (AW (AI c.g.procs d) b t r) w)
section
variable {c:RC} {P P':nP} {w w':wD} {r:Rn} {T:nP}
def Tv {d:Nat} (IH:WX c d):EC c d:=by
 intro P b t r a m w hb ar af N h;have X:=iK w;have HR:=gp h;clear h;obtain ⟨k,n,s,l⟩:=t;have Z:DP l=true:=by
  unfold Nd.isBlock at hb;simp only [gu] at hb;exact hb.2
 obtain ⟨au,hz,av⟩:=ar;obtain ⟨-,-,-,-,-,-,ag⟩:=au;have ah:WW c.g.procs l:=av.2;have a3:=Cm l;simp only [Nd.size] at hz;have hX:AW (AI c.g.procs d) b (.mk k n s l) r=Gf (AI c.g.procs d b) (if b then l.reverse else l) r:=rfl;rw [hX] at af ⊢;have N:rowSits P w l a:=N;change Calls prog _ #[_,.agg #[.int .u8 k,.int .i64 n,str s,.slice a l.length m],_] w _;generalize hL:(if b then l.reverse else l)=L at *;have a4:L.length=l.length:=by rw [<-hL];split<;>simp
 have ai:∀j,j<l.length->l[if b then l.length-1-j else j]? = L[j]? := λj hj=>by
  rw [<-hL];cases b
  . rfl
  . simp only [if_true];rw [List.getElem?_reverse hj]
 refine Ad func121 ntmps121 rfl rfl ?_;refine cS (eB [_,_,_,_] ?_);intro b1 w2 h4 x5 p6 z7;have X:=X.ext x5;clear N;have N:=jf N x5;refine cT ?_;have h1:=HR.out.more X;have F:Fr (λk=> ¬P k) w w2:=iM X;clear X;refine eK ?_;refine C1 (AK rfl rfl (gz _ Ab)) (C1 Pa (cN (C1 Pf (C1 (Pl h4) (C1 Pz (C1 Mv (cT ?_)))))));refine As ?_;refine AG (ι:=Nat) (λj=>[(0,.pointer (some ⟨c.rb,0,none⟩)),(2,.bool b),(4,.pointer (some ⟨b1,0,none⟩)),(6,.int .i64 ((l.length:Int)-1)),(14,.int .i64 l.length),(15,.int .i64 j)])
  (λj w'=> ∃Y,j<=l.length/\Run c (B9 P w w2) w' Y/\Blk w' b1 [.int .u8 k,.int .i64 n,str s,.slice a l.length m]/\rowSits P w' l a/\Fr (λk=> ¬P k) w w'/\Gf (AI c.g.procs d b) L r=Gf (AI c.g.procs d b) (L.drop j) Y)
  (λj=>l.length-j) 0 sB ⟨r,gC _,h1,h4,N,F,rfl⟩ ?_
 clear h1 h4 N F;rintro j w1 ⟨Y,hj,h1,h4,N,F,O⟩;by_cases aj:j<l.length
 . obtain ⟨kb,ko,rfl,a5,M⟩:=BI N (by intro e;subst e;simp at aj);have G:=ai j aj;rw [gm (by omega:j<L.length)] at G;rw [gW (by omega:j<L.length),Gf] at O;have ak:AI c.g.procs d b L[j] Y≠.error (-1):=λe=>af (by rw [O,e];rfl)
   have U:∀er,AI c.g.procs d b L[j] Y = .error er->Gf (AI c.g.procs d b) L r = .error er:=λer e=>by rw [O,e];rfl
   have V:∀r2,AI c.g.procs d b L[j] Y = .ok r2->Gf (AI c.g.procs d b) L r=Gf (AI c.g.procs d b) (L.drop (j+1)) r2:=λr2 e=>by rw [O,e];rfl
   cases b with
   | false=>
    simp only [iE,if_true,if_false] at G;obtain ⟨xa,xc,rx,sx⟩:=M _ _ G;have ac:=Hu Z G;have ad:=JJ ah G;have ae:=BK ag _ (io G);have aw:=D6 (io G);clear M G;generalize L[j]=x at *;have HS:=gp (λw1 h1 h2=>IH (B9 P w w2) false x Y xa xc w1 ac ⟨ae,Ab,ad⟩ ak h1 h2);unfold Dx at HS;obtain ⟨xk,xn,xs,xl⟩:=x;replace rx:Row w1 ⟨kb,ko+j*4,none⟩ [.int .u8 xk,.int .i64 xn,str xs,.slice xa xl.length xc]:=rx
    focus
     refine eK ?_;refine A4 (AL AT rfl (HS.out _ (iR Af (λb h=>gq h)) Af) (λ_ _ h=>h.ret)) rfl ?_ ?_;rotate_left;intro a6 a7 ax
     rotate_right 1
     rintro _ az ⟨al,⟨⟩,am,an,aa⟩;revert F h4 N sx;refine eZ aa ?_;intro a0 F h4 N sx;clear rx aa;refine Ak (Ah (Ai (Al (C1 V7 (C1 Mv (Ak ?_))))));rotate_left;refine AS (AH (AH (AS (AF ?_))));rotate_left
    . exact Aw (j+1) sB ⟨al,Ab,an,Af,Af,F,V _ am⟩ Ab
    . obtain ⟨er,g1,g2,g3⟩:=ax;exact gt ⟨_,rfl,er,U _ g1,g2,F.fr g3 (λk hk=>gq (λh=>hk (gq h)))⟩
   | true=>
    simp only [if_true,if_false] at G;obtain ⟨xa,xc,rx,sx⟩:=M _ _ G;have ac:=Hu Z G;have ad:=JJ ah G;have ae:=BK ag _ (io G);have aw:=D6 (io G);clear M G;generalize L[j]=x at *;have HS:=gp (λw1 h1 h2=>IH (B9 P w w2) true x Y xa xc w1 ac ⟨ae,Ab,ad⟩ ak h1 h2);unfold Dx at HS;obtain ⟨xk,xn,xs,xl⟩:=x;replace rx:Row w1 ⟨kb,ko+((l.length:Int)-1-(j:Int)).toNat*4,none⟩ [.int .u8 xk,.int .i64 xn,str xs,.slice xa xl.length xc]:=by rw [show ((l.length:Int)-1-(j:Int)).toNat=l.length-1-j by omega];exact rx
    focus
     refine eK ?_;refine C1 (AK rfl rfl (gz _ Ab)) ?_;refine eK ?_;refine A4 (AL AT rfl (HS.out _ (iR Af (λb h=>gq h)) Af) (λ_ _ h=>h.ret)) rfl ?_ ?_;rotate_left;intro a8 a9 ay
     rotate_right 1
     rintro _ a1 ⟨ao,⟨⟩,ap,aq,ab⟩;revert F h4 N sx;refine eZ ab ?_;intro a2 F h4 N sx;clear rx ab;refine Ak (Ah (Ai (Al (C1 V7 (C1 Mv (Ak ?_))))));rotate_left;refine AS (AH (AH (AS (AF ?_))));rotate_left
    . exact Aw (j+1) sB ⟨ao,Ab,aq,Af,Af,F,V _ ap⟩ Ab
    . obtain ⟨er,g1,g2,g3⟩:=ay;exact gt ⟨_,rfl,er,U _ g1,g2,F.fr g3 (λk hk=>gq (λh=>hk (gq h)))⟩
 . obtain rfl:j=l.length:=by omega
   rw [List.drop_of_length_le Ab] at O;rw [O];refine cS (C1 V3 (cT (Aj (C6 (BF (Av (Av (AO (Bi rfl ?_)))))))));exact gq ⟨Y,rfl,rfl,h1.less HR.out.sub (λk=>gq),F⟩
end
section
variable {c:RC} {P P':nP} {w w':wD} {r:Rn} {T:nP}
def Run.lt (h:Run c P w r):∀k,P k->k<w.heap.size:=λk G=>by
 obtain ⟨_,_,h⟩:=h;exact (h.off k G).2
def StOk.kid {ps:List PD} {n:Int} (h:StOk ps (.mk k n s l)) {t:Nd} (G:l[i]? = some t):StOk ps t:=by
 obtain ⟨M,N,O⟩:=h;obtain ⟨-,-,-,-,-,-,U⟩:=M;have:=D6 (io G);simp only [Nd.size] at N;exact ⟨BK U _ (io G),Ab,JJ O.2 G⟩
def WY (hc:c.fuel<=10000) (IH:EC c d) (b:Bool) {n:Int} {y z u:Nd} (hx:x.isExpr=true) (hy:y.isBlock=true) (hz:z.isBlock=true) (hu:u.isExpr=true) (ad:StOk c.g.procs (.mk 52 n s [x,y,z,u])) (a:oA) (m:Nat) (w:wD)
 (ai:((BZ (if b then u else x) r).bind λp=>(AW (AI c.g.procs d) b (if p.1 then y else z) p.2).bind (BH (if b then x else u) p.1))≠.error (-1)) (hs:(Nd.mk 52 n s [x,y,z,u]).sits P w a) (h:Run c P w r) :
 Calls prog 187 #[.pointer (some ⟨c.rb,0,none⟩),(Nd.mk 52 n s [x,y,z,u]).val a m,.bool b] w (Dx c P ((BZ (if b then u else x) r).bind λp=>(AW (AI c.g.procs d) b (if p.1 then y else z) p.2).bind (BH (if b then x else u) p.1)) w):=by
 have X:=iK w;have HR:=gp h;have N:=h.lt;clear h;have hs:rowSits P w [x,y,z,u] a:=hs;obtain ⟨kb,ko,rfl,aj,ae⟩:=BI hs AN;obtain ⟨ya,yc,Y,sy⟩:=ae 1 y rfl;obtain ⟨za,zc,rz,sz⟩:=ae 2 z rfl;have bz:=ad.kid (i:=0) rfl;have a1:=ad.kid (i:=1) rfl;have a2:=ad.kid (i:=2) rfl;have b0:=ad.kid (i:=3) rfl;have HE:=gp (λw1 U h2=>Sh (k:=52) (n:=n) (s:=s) (l:=[x,y,z,u]) (P:=P) AN AN b (some ⟨kb,ko,none⟩) m w1 U h2);have hf:(if b then u else x).isExpr=true:=by cases b<;>assumption
 have hg:(if b then x else u).isExpr=true:=by cases b<;>assumption
 have a3:StOk c.g.procs (if b then u else x):=by cases b<;>assumption
 have a4:StOk c.g.procs (if b then x else u):=by cases b<;>assumption
 simp only [show B0 [x,y,z,u] ([x,y,z,u].length-1)=u from rfl,show B0 [x,y,z,u] 0=x from rfl] at HE;generalize (if b then u else x)=f at *;generalize (if b then x else u)=g at *;clear ae ad;obtain ⟨fk,fn,fs,fl⟩:=f;obtain ⟨gk,gn,gs,gl⟩:=g;obtain ⟨yk,yn,ys,yl⟩:=y;obtain ⟨zk,zn,zs,zl⟩:=z;replace Y:Row w ⟨kb,ko+1*4,none⟩ [.int .u8 yk,.int .i64 yn,str ys,.slice ya yl.length yc]:=Y;replace rz:Row w ⟨kb,ko+2*4,none⟩ [.int .u8 zk,.int .i64 zn,str zs,.slice za zl.length zc]:=rz;change Calls prog _ #[_,.agg #[.int .u8 52,.int .i64 n,str s,.slice (some ⟨kb,ko,none⟩) 4 m],_] w _;have b2:=N kb aj;obtain ⟨Z,hZ⟩:∃Z,Z=((BZ (.mk fk fn fs fl) r).bind λp=>(AW (AI c.g.procs d) b (if p.1 then .mk yk yn ys yl else .mk zk zn zs zl) p.2).bind (BH (.mk gk gn gs gl) p.1)):=⟨_,rfl⟩
 rw [<-hZ] at ai ⊢;have x1:∀er,BZ (.mk fk fn fs fl) r = .error er->Z = .error er:=λer e=>by rw [hZ,e];rfl
 have x2:∀q r1,BZ (.mk fk fn fs fl) r = .ok (q,r1)->Z=(AW (AI c.g.procs d) b (if q then .mk yk yn ys yl else .mk zk zn zs zl) r1).bind (BH (.mk gk gn gs gl) q):=λq r1 e=>by rw [hZ,e];rfl
 clear hZ;refine Ad func187 ntmps187 rfl rfl (cS (eB [_,_,_,_] ?_));intro b1 w2 h4 x5 p6 z7;revert X sy sz;refine eE x5 ?_;intro X sy sz;clear hs;revert hs Y rz;refine eE x5 ?_;intro hs Y rz;refine kQ (HE.out _ Af (λk hk=>by have:=N k hk;omega)) ?_;rintro _ b3 ⟨a8,m9,am,an,⟨⟩,V,G,a5⟩;revert h4 X sy sz Y rz;refine eY a5 ?_;intro b4 h4 X sy sz Y rz;refine eK ?_;refine eA [_,_,_,_] ?_;intro b5 b6 ak a6 b7 b8;revert V G h4 X sy sz Y rz;refine eE a6 ?_;intro V G h4 X sy sz Y rz;refine eA [_,_,_,_] ?_;intro b9 ca al a7 cb cc;revert ak V G h4 X sy sz Y rz;refine eE a7 ?_;intro ak V G h4 X sy sz Y rz;refine eS [_,_,_,_] ak ?_;intro cd ao f35 ce;have al:=al.fr f35 Ab;have V:=iL V f35 (λb hb h=>by (have U:=N b hb;omega));have G:=iL G f35 (λb hb h=>by (have U:=N b hb;omega));revert h4 X;refine eF f35 ?_;intro h4 X;have sy:=iL sy f35 (λb hb h=>by (have U:=N b hb;omega));have sz:=iL sz f35 (λb hb h=>by (have U:=N b hb;omega));revert Y rz;refine eF f35 ?_;intro Y rz;refine eS [_,_,_,_] al ?_;intro af ac aa cf;have ao:=ao.fr aa Ab;have V:=iL V aa (λb hb h=>by (have U:=N b hb;omega));have G:=iL G aa (λb hb h=>by (have U:=N b hb;omega))
 revert h4 X;refine eF aa ?_;intro h4 X;have sy:=iL sy aa (λb hb h=>by (have U:=N b hb;omega));have sz:=iL sz aa (λb hb h=>by (have U:=N b hb;omega));revert Y rz;refine eF aa ?_;intro Y rz;refine cT ?_;have U:=HR.out.more X;have F:Fr (λk=> ¬P k) w af:=iM X;clear X hs;have HH:=gp (λw1 U h2=>OM (c:=c) (P:=B9 P w af) (r:=r) hc _ a3.wf hf a8 m9 w1 U h2);unfold Zg at HH;have HY:=gp (λq r1 (e:BZ (.mk fk fn fs fl) r = .ok (q,r1)) (hq:q=true) w1 U h2=>IH (B9 P w af) b _ r1 ya yc w1 hy a1 (λe2=>ai (by rw [x2 _ _ e,hq];simp only [if_true];rw [e2];rfl)) U h2);have HZ:=gp (λq r1 (e:BZ (.mk fk fn fs fl) r = .ok (q,r1)) (hq:q=false) w1 U h2=>IH (B9 P w af) b _ r1 za zc w1 hz a2 (λe2=>ai (by rw [x2 _ _ e,hq];simp only [iE,if_false];rw [e2];rfl)) U h2);have HA:=gp (λq r2 w1 U h2=>QN (c:=c) (P:=B9 P w af) (r:=r2) hc q _ a4.wf hg am an w1 U h2);unfold Dx at HY HZ HA
 focus
  refine eK ?_;refine A4 (AL AT rfl (HH.out _ (iR Af (λb h=>gq h)) Af) (λ_ _ h=>h.ret)) rfl ?_ ?_;rotate_left;intro cg ch a9
  rotate_right 1
  rintro _ bb ⟨bc,bd,⟨⟩,O,be,ab⟩;revert ac G h4 sy sz;refine eF ab ?_;intro ac G h4 sy sz;have Y:=i8 Y ab (λh=>h (gq aj));have rz:=i8 rz ab (λh=>h (gq aj));have F:=iU F ab (λk hk=>gq (λh=>hk (gq h)));refine C1 Pa (cT (Aj (cS (C1 Mv (cT (FF rfl (λM=>?_) (λM=>?_)))))));refine eK ?_;refine A4 (AL AT rfl (HY.out _ _ Af Af _ (iR Af (λb h=>gq h)) Af) (λ_ _ h=>h.ret)) rfl ?_ ?_;rotate_left;intro bf bg ap
  rotate_right 1
  rintro _ bh ⟨bi,⟨⟩,ag,bj,aq⟩;revert ac G F;refine eF aq ?_;intro ac G F;refine eK ?_;refine A4 (AL AT rfl (HA.out _ _ _ (iR Af (λb h=>gq h)) Af) (λ_ _ h=>h.ret)) rfl ?_ ?_;rotate_left;intro bk bl ar
  rotate_right 1
  rintro _ bm ⟨bn,⟨⟩,bo,au,av⟩;have F:=iU F av (λk hk=>gq (λh=>hk (gq h)));refine Ak (Bi rfl ?_);rotate_left;refine AF ?_;rotate_left;refine AH (AF ?_);rotate_left;refine eK ?_;refine A4 (AL AT rfl (HZ.out _ _ Af Af _ (iR Af (λb h=>gq h)) Af) (λ_ _ h=>h.ret)) rfl ?_ ?_;rotate_left;intro bp bq aw
  rotate_right 1
  rintro _ br ⟨bs,⟨⟩,ah,bt,ax⟩;revert ac G F;refine eF ax ?_;intro ac G F;refine eK ?_;refine A4 (AL AT rfl (HA.out _ _ _ (iR Af (λb h=>gq h)) Af) (λ_ _ h=>h.ret)) rfl ?_ ?_;rotate_left;intro bu bv ay
  rotate_right 1
  rintro _ ba ⟨bw,⟨⟩,bx,az,a0⟩;have F:=iU F a0 (λk hk=>gq (λh=>hk (gq h)));refine Ak (Bi rfl ?_);rotate_left;refine AF ?_;rotate_left;refine AH (AF ?_);rotate_left;refine AH (AF ?_);rotate_left
 . subst M;exact EB au F HR.out.sub (λk=>gq) (by rw [x2 _ _ O];simp only [if_true,iE,if_false,ag,gL];assumption)
 . subst M;exact Bx ar F (λk=>gq) (λer e=>by rw [x2 _ _ O];simp only [if_true,iE,if_false,ag,gL];exact e)
 . subst M;exact Bx ap F (λk=>gq) (λer e=>by rw [x2 _ _ O];simp only [if_true,iE,if_false,e,gL])
 . subst M;exact EB az F HR.out.sub (λk=>gq) (by rw [x2 _ _ O];simp only [if_true,iE,if_false,ah,gL];assumption)
 . subst M;exact Bx ay F (λk=>gq) (λer e=>by rw [x2 _ _ O];simp only [if_true,iE,if_false,ah,gL];exact e)
 . subst M;exact Bx aw F (λk=>gq) (λer e=>by rw [x2 _ _ O];simp only [if_true,iE,if_false,e,gL])
 . exact Bx a9 F (λk=>gq) x1
def bB (hc:c.fuel<=10000) (IH:EC c d) (b:Bool) {n:Int} {y z u:Nd} (hx:x.isExpr=true) (hy:y.isBlock=true) (bc:z.isBlock=true) (hu:u.isExpr=true) (am:StOk c.g.procs (.mk 53 n s [x,y,z,u])) (a:oA) (m:Nat) (w:wD)
 (an:((BH (if b then u else x) true r).bind (Cw (AW (AI c.g.procs d) b y) (AW (AI c.g.procs d) b z) (if b then x else u) (if b then u else x) d))≠.error (-1)) (hs:(Nd.mk 53 n s [x,y,z,u]).sits P w a) (h:Run c P w r) :
 Calls prog 188 #[.pointer (some ⟨c.rb,0,none⟩),(Nd.mk 53 n s [x,y,z,u]).val a m,.bool b] w (Dx c P ((BH (if b then u else x) true r).bind (Cw (AW (AI c.g.procs d) b y) (AW (AI c.g.procs d) b z) (if b then x else u) (if b then u else x) d)) w):=by
 have X:=iK w;have HR:=gp h;have ab:=h.lt;clear h;have hs:rowSits P w [x,y,z,u] a:=hs;obtain ⟨kb,ko,rfl,aa,ao⟩:=BI hs AN;obtain ⟨ya,yc,O,Y⟩:=ao 1 y rfl;obtain ⟨za,zc,U,sz⟩:=ao 2 z rfl;have b5:=am.kid (i:=0) rfl;have bd:=am.kid (i:=1) rfl;have be:=am.kid (i:=2) rfl;have b6:=am.kid (i:=3) rfl;have HE:=gp (λw1 h1 h2=>Sh (k:=53) (n:=n) (s:=s) (l:=[x,y,z,u]) (P:=P) AN AN b (some ⟨kb,ko,none⟩) m w1 h1 h2);have hf:(if b then u else x).isExpr=true:=by cases b<;>assumption
 have hg:(if b then x else u).isExpr=true:=by cases b<;>assumption
 have bf:StOk c.g.procs (if b then u else x):=by cases b<;>assumption
 have bg:StOk c.g.procs (if b then x else u):=by cases b<;>assumption
 simp only [show B0 [x,y,z,u] ([x,y,z,u].length-1)=u from rfl,show B0 [x,y,z,u] 0=x from rfl] at HE;generalize (if b then u else x)=f at *;generalize (if b then x else u)=g at *;clear ao am;obtain ⟨fk,fn,fs,fl⟩:=f;obtain ⟨gk,gn,gs,gl⟩:=g;obtain ⟨yk,yn,ys,yl⟩:=y;obtain ⟨zk,zn,zs,zl⟩:=z;replace O:Row w ⟨kb,ko+1*4,none⟩ [.int .u8 yk,.int .i64 yn,str ys,.slice ya yl.length yc]:=O;replace U:Row w ⟨kb,ko+2*4,none⟩ [.int .u8 zk,.int .i64 zn,str zs,.slice za zl.length zc]:=U;change Calls prog _ #[_,.agg #[.int .u8 53,.int .i64 n,str s,.slice (some ⟨kb,ko,none⟩) 4 m],_] w _;have b7:=ab kb aa;obtain ⟨B1,aw⟩:∃B1,B1=AW (AI c.g.procs d) b (.mk yk yn ys yl):=⟨_,rfl⟩;obtain ⟨B2,ax⟩:∃B2,B2=AW (AI c.g.procs d) b (.mk zk zn zs zl):=⟨_,rfl⟩
 rw [<-aw,<-ax] at an ⊢;obtain ⟨Z,hZ⟩:∃Z,Z=((BH (.mk fk fn fs fl) true r).bind (Cw B1 B2 (.mk gk gn gs gl) (.mk fk fn fs fl) d)):=⟨_,rfl⟩
 rw [<-hZ] at an ⊢;have x1:∀er,BH (.mk fk fn fs fl) true r = .error er->Z = .error er:=λer e=>by rw [hZ,e];rfl
 have x2:∀r1,BH (.mk fk fn fs fl) true r = .ok r1->Z=Cw B1 B2 (.mk gk gn gs gl) (.mk fk fn fs fl) d r1:=λr1 e=>by rw [hZ,e];rfl
 clear hZ;refine Ad func188 ntmps188 rfl rfl (cS (eB [_,_,_,_] ?_));intro b1 w2 h4 x5 p6 z7;revert X Y sz;refine eE x5 ?_;intro X Y sz;clear hs;revert hs O U;refine eE x5 ?_;intro hs O U;refine kQ (HE.out _ Af (λk hk=>by have:=ab k hk;omega)) ?_;rintro _ b8 ⟨a8,m9,ap,ar,⟨⟩,G,M,bh⟩;revert h4 X Y sz O U;refine eY bh ?_;intro b9 h4 X Y sz O U;refine eK ?_;refine eA [_,_,_,_] ?_;intro a0 ca ay bi cb cc;revert G M h4 X Y sz O U;refine eE bi ?_;intro G M h4 X Y sz O U;refine eA [_,_,_,_] ?_;intro a1 cd az bj ce cf;revert ay G M h4 X Y sz O U;refine eE bj ?_;intro ay G M h4 X Y sz O U;refine eS [_,_,_,_] ay ?_;intro cg N f35 ch;have az:=az.fr f35 Ab;have G:=iL G f35 (λb hb h=>by (have h1:=ab b hb;omega));have M:=iL M f35 (λb hb h=>by (have h1:=ab b hb;omega));revert h4 X;refine eF f35 ?_;intro h4 X;have Y:=iL Y f35 (λb hb h=>by (have h1:=ab b hb;omega));have sz:=iL sz f35 (λb hb h=>by (have h1:=ab b hb;omega));revert O U;refine eF f35 ?_;intro O U;refine eS [_,_,_,_] az ?_;intro al V ae ci;have N:=N.fr ae Ab;have G:=iL G ae (λb hb h=>by (have h1:=ab b hb;omega));have M:=iL M ae (λb hb h=>by (have h1:=ab b hb;omega))
 revert h4 X;refine eF ae ?_;intro h4 X;have Y:=iL Y ae (λb hb h=>by (have h1:=ab b hb;omega));have sz:=iL sz ae (λb hb h=>by (have h1:=ab b hb;omega));revert O U;refine eF ae ?_;intro O U;refine cT ?_;have h1:=HR.out.more X;have F:Fr (λk=> ¬P k) w al:=iM X;clear X hs;have HH:=gp (λr1 w1 h1 h2=>OM (c:=c) (P:=B9 P w al) (r:=r1) hc _ bg.wf hg ap ar w1 h1 h2);unfold Zg at HH;have HA:=gp (λq r2 w1 h1 h2=>QN (c:=c) (P:=B9 P w al) (r:=r2) hc q _ bf.wf hf a8 m9 w1 h1 h2);unfold Dx at HA
 focus
  refine eK ?_;refine A4 (AL AT rfl (HA.out _ _ _ (iR Af (λb h=>gq h)) Af) (λ_ _ h=>h.ret)) rfl ?_ ?_;rotate_left;intro cj ck bk
  rotate_right 1
  rintro _ bm ⟨a2,⟨⟩,au,aq,af⟩;revert V N G M h4 Y sz;refine eF af ?_;intro V N G M h4 Y sz;have O:=i8 O af (λh=>h (gq aa));have U:=i8 U af (λh=>h (gq aa));have F:=iU F af (λk hk=>gq (λh=>hk (gq h)));refine cT ?_;rotate_left;refine AH (AF ?_);rotate_left
 . refine As ?_;have a3:=x2 _ au;refine AG (ι:=Nat) (λ_=>[(0,.pointer (some ⟨c.rb,0,none⟩)),(2,.bool b),(4,.pointer (some ⟨b1,0,none⟩)),(6,.pointer (some ⟨a0,0,none⟩)),(7,.pointer (some ⟨a1,0,none⟩))])
    (λj w'=> ∃rj,Run c (B9 P w al) w' rj/\Blk w' b1 [.int .u8 53,.int .i64 n,str s,.slice (some ⟨kb,ko,none⟩) 4 m]/\Blk w' a0 [.int .u8 fk,.int .i64 fn,str fs,.slice a8 fl.length m9]/\Blk w' a1 [.int .u8 gk,.int .i64 gn,str gs,.slice ap gl.length ar]/\Row w' ⟨kb,ko+1*4,none⟩ [.int .u8 yk,.int .i64 yn,str ys,.slice ya yl.length yc]/\Row w' ⟨kb,ko+2*4,none⟩ [.int .u8 zk,.int .i64 zn,str zs,.slice za zl.length zc] /\
     (Nd.mk fk fn fs fl).sits P w' a8/\(Nd.mk gk gn gs gl).sits P w' ap/\(Nd.mk yk yn ys yl).sits P w' ya/\(Nd.mk zk zn zs zl).sits P w' za/\Fr (λk=> ¬P k) w w'/\Z=Cw B1 B2 (.mk gk gn gs gl) (.mk fk fn fs fl) j rj)
    (λj=>j) d sB ⟨a2,aq,h4,N,V,O,U,G,M,Y,sz,F,a3⟩ ?_
   clear aq h4 N V O U G M Y sz F a3 au h1;rintro j w1 ⟨rj,aq,h4,N,V,O,U,G,M,Y,sz,F,hz⟩;cases j with
   | zero=>exact absurd hz (λe=>an e)
   | succ j=>
    have y1:∀er,B1 rj = .error er->Z = .error er:=λer e=>by rw [hz];simp only [Cw,e,gL]
    have y2:∀r1 er,B1 rj = .ok r1->BZ (.mk gk gn gs gl) r1 = .error er->Z = .error er:=λr1 er e e2=>by rw [hz];simp only [Cw,e,e2,gL]
    have y3:∀r1 r2,B1 rj = .ok r1->BZ (.mk gk gn gs gl) r1 = .ok (true,r2)->Z = .ok r2:=λr1 r2 e e2=>by rw [hz];simp only [Cw,e,e2,gL,if_true]
    have y4:∀r1 r2,B1 rj = .ok r1->BZ (.mk gk gn gs gl) r1 = .ok (false,r2)->Z=(B2 r2).bind λr=>(BH (.mk fk fn fs fl) false r).bind (Cw B1 B2 (.mk gk gn gs gl) (.mk fk fn fs fl) j):=λr1 r2 e e2=>by rw [hz];simp only [Cw,e,e2,gL,iE,if_false]
    have HY:=gp (λw1 h1 h2=>IH (B9 P w al) b _ rj ya yc w1 hy bd (λe2=>an (y1 _ (by rw [aw];exact e2))) h1 h2);have HZ:=gp (λr1 q r2 (e:B1 rj = .ok r1) (e2:BZ (.mk gk gn gs gl) r1 = .ok (q,r2)) (hq:q=false) w1 h1 h2=>IH (B9 P w al) b _ r2 za zc w1 bc be (λe3=>an (by subst hq;rw [y4 _ _ e e2,ax,e3];rfl)) h1 h2);rw [<-aw] at HY;rw [<-ax] at HZ;unfold Dx at HY HZ;clear hz
    focus
     refine eK ?_;refine A4 (AL AT rfl (HY.out _ (iR Af (λb h=>gq h)) Af) (λ_ _ h=>h.ret)) rfl ?_ ?_;rotate_left;intro cl cm bl
     rotate_right 1
     rintro _ bn ⟨bo,⟨⟩,ac,bp,ag⟩;revert h4 N V;refine eF ag ?_;intro h4 N V;have O:=i8 O ag (λh=>h (gq aa));have U:=i8 U ag (λh=>h (gq aa));revert G M Y sz F;refine eF ag ?_;intro G M Y sz F;refine eK ?_;refine A4 (AL AT rfl (HH.out _ _ (iR Af (λb h=>gq h)) Af) (λ_ _ h=>h.ret)) rfl ?_ ?_;rotate_left;intro bq br a4
     rotate_right 1
     rintro _ bs ⟨bt,bu,⟨⟩,ah,a5,ai⟩;revert h4 N V;refine eF ai ?_;intro h4 N V;have O:=i8 O ai (λh=>h (gq aa));have U:=i8 U ai (λh=>h (gq aa));revert G M Y sz F;refine eF ai ?_;intro G M Y sz F;refine cT (FF rfl (λad=>?_) (λad=>?_));refine eK ?_;refine EF rfl ?_;rotate_left;refine eK ?_;refine A4 (AL AT rfl (HZ.out _ _ _ Af Af Af _ (iR Af (λb h=>gq h)) Af) (λ_ _ h=>h.ret)) rfl ?_ ?_;rotate_left;intro bv bw a6
     rotate_right 1
     rintro _ bx ⟨bz,⟨⟩,av,b0,aj⟩;revert h4 N V;refine eF aj ?_;intro h4 N V;have O:=i8 O aj (λh=>h (gq aa));have U:=i8 U aj (λh=>h (gq aa));revert G M Y sz F;refine eF aj ?_;intro G M Y sz F;refine eK ?_;refine A4 (AL AT rfl (HA.out _ _ _ (iR Af (λb h=>gq h)) Af) (λ_ _ h=>h.ret)) rfl ?_ ?_;rotate_left;intro b2 b3 a7
     rotate_right 1
     rintro _ b4 ⟨a9,⟨⟩,ba,bb,ak⟩;revert h4 N V;refine eF ak ?_;intro h4 N V;have O:=i8 O ak (λh=>h (gq aa));have U:=i8 U ak (λh=>h (gq aa));revert G M Y sz F;refine eF ak ?_;intro G M Y sz F;refine Ak (Ah ?_);rotate_left;refine AS (AH (AS (AF ?_)));rotate_left;refine AH (AS (AH (AS (AF ?_))));rotate_left;refine AH (AH (AS (AH (AS (AF ?_)))));rotate_left;refine AH (AS (AH (AS (AF ?_))));rotate_left
    . subst ad;exact EB a5 F HR.out.sub (λk=>gq) (y3 _ _ ac ah)
    . subst ad;exact Aw j sB ⟨a9,bb,Af,Af,Af,Af,Af,Af,Af,Af,Af,F,by rw [y4 _ _ ac ah,av];simp only [gL];rw [ba]⟩ Ab
    . subst ad;exact Bx a7 F (λk=>gq) (λer e=>by rw [y4 _ _ ac ah,av];simp only [gL];rw [e])
    . subst ad;exact Bx a6 F (λk=>gq) (λer e=>by rw [y4 _ _ ac ah,e];rfl)
    . exact Bx a4 F (λk=>gq) (λer e=>y2 _ _ ac e)
    . exact Bx bl F (λk=>gq) y1
 . exact Bx bk F (λk=>gq) x1
end
section
variable {c:RC} {P P':nP} {w w':wD} {r:Rn} {T:nP}
def D3 {h:List PanicEntry} {e:Int} (q:e≠0/\h=Mx e/\Ext w1 w') (F:Fr (λk=> ¬P k) w w1) (G:e≠0->Z = .error e):Dx c P Z w (.panicked h) w':=
 gt ⟨_,rfl,e,G q.1,q.2.1,F.ext q.2.2⟩
def NL {X:Except Int Int} {G:List PanicEntry} (q:dL X w1 G w') (F:Fr (λk=> ¬P k) w w1) (e:∀h,X = .error h->Z = .error h):Dx c P Z w (.panicked G) w':=by
 obtain ⟨h,M,N,O⟩:=q;exact gt ⟨_,rfl,h,e _ M,N,F.ext O⟩
def Run.wf (h:Run c P w r):∃K,r.st.WF K (1000+(c.fuel-r.rem)):=by
 obtain ⟨_,_,h⟩:=h;exact h.wf
def Tw (N:c.fuel<=10000) (M:Run c P w r) (P':nP) (v:VD) (O:v.kind=1\/v.kind=3) (U:v.len=0) (x:Int) (G:Rn) (e:Bn r = .ok G) (w1:wD) (h:Run c P' w1 G) :
 Calls prog 192 #[.pointer (some ⟨c.sb,0,none⟩),v.val,.int .i64 x] w1 (QO c P' G.rem (G.st.opens v x) w1):=by
 obtain ⟨V,rfl⟩:=CC e;have X:=M.rem;exact aY N v O U x w1 h (by simp only;omega) (m:=c.fuel-r.rem) M.wf (by simp only;omega)
def Zj (hc:c.fuel<=10000) (IH:EC c d) (b:Bool) {n:Int} {y z:Nd} (hx:x.isExpr=true) (hy:y.isBlock=true) (cp:z.isExpr=true) (ar:StOk c.g.procs (.mk 54 n s [x,y,z])) (a:oA) (m:Nat) (w:wD)
 (a2:((Bn r).bind λr=>(B4 (if b then z else x) r).bind λv=>(C3 (·.opens ⟨s,1,0⟩ v) r).bind λr=>(AW (AI c.g.procs d) b y r).bind λr=>(Bn r).bind λr=>(B4 (if b then x else z) r).bind λv=>C3 (·.closes s v) r)≠.error (-1)) (hs:(Nd.mk 54 n s [x,y,z]).sits P w a) (h:Run c P w r) :
 Calls prog 189 #[.pointer (some ⟨c.rb,0,none⟩),(Nd.mk 54 n s [x,y,z]).val a m,.bool b] w (Dx c P ((Bn r).bind λr=>(B4 (if b then z else x) r).bind λv=>(C3 (·.opens ⟨s,1,0⟩ v) r).bind λr=>(AW (AI c.g.procs d) b y r).bind λr=>(Bn r).bind λr=>(B4 (if b then x else z) r).bind λv=>C3 (·.closes s v) r) w):=by
 have X:=iK w;have HR:=gp h;have ae:=h.lt;clear h;have hs:rowSits P w [x,y,z] a:=hs;obtain ⟨kb,ko,rfl,a3,aw⟩:=BI hs AN;obtain ⟨ya,yc,Y,sy⟩:=aw 1 y rfl;have cq:=ar.kid (i:=0) rfl;have br:=ar.kid (i:=1) rfl;have cr:=ar.kid (i:=2) rfl;have HE:=gp (λw1 h1 h2=>Sh (k:=54) (n:=n) (s:=s) (l:=[x,y,z]) (P:=P) AN AN b (some ⟨kb,ko,none⟩) m w1 h1 h2);have hf:(if b then z else x).isExpr=true:=by cases b<;>assumption
 have hg:(if b then x else z).isExpr=true:=by cases b<;>assumption
 have bs:StOk c.g.procs (if b then z else x):=by cases b<;>assumption
 have bt:StOk c.g.procs (if b then x else z):=by cases b<;>assumption
 simp only [show B0 [x,y,z] ([x,y,z].length-1)=z from rfl,show B0 [x,y,z] 0=x from rfl] at HE;generalize (if b then z else x)=f at *;generalize (if b then x else z)=g at *;clear aw ar;obtain ⟨fk,fn,fs,fl⟩:=f;obtain ⟨gk,gn,gs,gl⟩:=g;obtain ⟨yk,yn,ys,yl⟩:=y;replace Y:Row w ⟨kb,ko+1*4,none⟩ [.int .u8 yk,.int .i64 yn,str ys,.slice ya yl.length yc]:=Y;change Calls prog _ #[_,.agg #[.int .u8 54,.int .i64 n,str s,.slice (some ⟨kb,ko,none⟩) 3 m],_] w _;have ct:=ae kb a3;obtain ⟨B1,a4⟩:∃B1,B1=AW (AI c.g.procs d) b (.mk yk yn ys yl):=⟨_,rfl⟩
 rw [<-a4] at a2 ⊢;obtain ⟨Z,hZ⟩:∃Z,Z=((Bn r).bind λr=>(B4 (.mk fk fn fs fl) r).bind λv=>(C3 (·.opens ⟨s,1,0⟩ v) r).bind λr=>(B1 r).bind λr=>(Bn r).bind λr=>(B4 (.mk gk gn gs gl) r).bind λv=>C3 (·.closes s v) r):=⟨_,rfl⟩
 rw [<-hZ] at a2 ⊢;refine Ad func189 ntmps189 rfl rfl (cS (eB [_,_,_,_] ?_));intro b1 w2 U x5 p6 z7;have X:=X.ext x5;clear hs;revert hs sy Y;refine eE x5 ?_;intro hs sy Y;refine kQ (HE.out _ Af (λk hk=>by have:=ae k hk;omega)) ?_;rintro _ cu ⟨a8,m9,bf,bg,⟨⟩,V,G,bu⟩;revert U X sy Y;refine eY bu ?_;intro cv U X sy Y;refine eK ?_;refine eA [_,_,_,_] ?_;intro cw cx a5 bv cy cz;revert V G U X sy Y;refine eE bv ?_;intro V G U X sy Y;refine eA [_,_,_,_] ?_;intro c0 c1 a6 bw c2 c3;revert a5 V G U X sy Y;refine eE bw ?_;intro a5 V G U X sy Y;refine eS [_,_,_,_] a5 ?_;intro c4 al f35 c5;have a6:=a6.fr f35 Ab;have V:=iL V f35 (λb hb h=>by (have h1:=ae b hb;omega));have G:=iL G f35 (λb hb h=>by (have h1:=ae b hb;omega));revert U X;refine eF f35 ?_;intro U X;have sy:=iL sy f35 (λb hb h=>by (have h1:=ae b hb;omega));have Y:=i8 Y f35 (by simp only;omega);refine eS [_,_,_,_] a6 ?_;intro aa O ak c6;have al:=al.fr ak Ab;have V:=iL V ak (λb hb h=>by (have h1:=ae b hb;omega));have G:=iL G ak (λb hb h=>by (have h1:=ae b hb;omega));revert U X;refine eF ak ?_;intro U X;have sy:=iL sy ak (λb hb h=>by (have h1:=ae b hb;omega));have Y:=i8 Y ak (by simp only;omega);refine cT ?_
 have h1:=HR.out.more X;have F:Fr (λk=> ¬P k) w aa:=iM X;clear X hs;have HS:=gp (λr1 w1 h=>My (c:=c) (P:=B9 P w aa) (r:=r1) hc w1 h);unfold Dx at HS;have HV:=gp (λr1 w1 h1 h2=>Tt (c:=c) (P:=B9 P w aa) (r:=r1) hc _ bs.wf hf a8 m9 P w1 h1 h2);have HU:=gp (λr1 w1 h1 h2=>Tt (c:=c) (P:=B9 P w aa) (r:=r1) hc _ bt.wf hg bf bg P w1 h1 h2);have HO:=gp (λr1 e v w1 h=>Tw hc HR.out (B9 P w aa) ⟨s,1,0⟩ (gq rfl) rfl v r1 e w1 h);unfold VD.val at HO;have HL:=gp (λr1 v w1 h=>Tu (c:=c) (P:=B9 P w aa) (r:=r1) hc s v w1 h);have HC:=gp (λe w1=>In e (.pointer (some ⟨c.rb,0,none⟩)) w1);unfold Sg at HC;have HY:=gp (λr1 v (e:Bn r = .ok r1) (e2:B4 (.mk fk fn fs fl) r1 = .ok v) (e3:(r1.st.opens ⟨s,1,0⟩ v).1=0) w1 h1 h2=>IH (B9 P w aa) b _ ⟨(r1.st.opens ⟨s,1,0⟩ v).2,r1.rem⟩ ya yc w1 hy br (λe4=>a2 (by rw [hZ];simp only [e,e2,gL,C3,e3,ne_eq,not_true,if_false];rw [a4,e4])) h1 h2);rw [<-a4] at HY;unfold Dx at HY
 focus
  refine eK ?_;refine A4 (AL AT rfl (HS.out _ _ Af) (λ_ _ h=>h.ret)) rfl ?_ ?_;rotate_left;intro c7 c8 bx
  rotate_right 1
  rintro _ ax ⟨b8,⟨⟩,ab,af,am⟩;revert O al V G U sy;refine eF am ?_;intro O al V G U sy;have Y:=i8 Y am (λh=>h (gq a3));have F:=iU F am (λk hk=>gq (λh=>hk (gq h)));refine eK ?_;refine Aq (λwz=>Fr ((λk=> ¬(B9 P w aa k\/k=c.rb))) ax wz) 12 (.pure 0 (.pure 1 (.pure 2 (.pure 3 (.pure 4 (.pure 5 (.pure 6 (.pure 7 (.pure 8 (.pure 9 (.fork 10 (.fork 11 .tail .none) .none))))))))))) mixed AT (Aa Ag) ?_;intro bh ay _;have M:(λwz=>Fr ((λk=> ¬(B9 P w aa k\/k=c.rb))) ax wz) bh:=iM ay;simp only at M;have au:=af;have a7:=al;have an:=U;revert af O V G U sy Y F;refine eE ay ?_;intro af O V G U sy Y F;refine ⟨M,?_⟩;refine eT ?_;refine Tq rfl (Ap Ac rfl rfl rfl (λwz hz=>iV (iN (Run.blk au) hz (by first|omega|(dsimp only;omega))) rfl)) (Tq rfl Pf (Tq rfl (Ap Ac rfl rfl rfl (λwz hz=>iV (iN an hz (λh=>h (gq (gt ⟨Ab,Ab⟩)))) rfl)) (Tq rfl (xB [_,_,_]) (Tq rfl Mv (Tq rfl (xL [_,_,_,_] (λwz hz=>(iN a7 hz (λh=>h (gq (gt ⟨Ab,Ab⟩)))))) ?_)))));refine O9 rfl (AL AT rfl (HV.out _ _ Af Af) (λ_ _ h=>h.ret)) rfl ?_ ?_ AD;rotate_left;intro b9 ca bi
  rotate_right 1
  rintro _ cb ⟨cc,⟨⟩,ac,bj⟩;revert M af O G U sy Y F;refine eE bj ?_;intro M af O G U sy Y F;refine ⟨M,?_⟩;refine tC rfl rfl (HO.out _ Af _ _ Af) ?_;rintro _ cd ⟨⟨⟩,az,ad⟩;revert M O;refine eF ad ?_;intro M O;have G:=iL G ad (λb hb h=>h (gq (gq hb)));have U:=iN U ad (λh=>h (gq (gt ⟨Ab,Ab⟩)));have sy:=iL sy ad (λb hb h=>h (gq (gq hb)));have Y:=i8 Y ad (λh=>h (gq (gq a3)));have F:=iU F ad (λk hk=>gq (λh=>hk (gq (gq h))));refine ⟨M,?_⟩;refine At rfl (A4 (AL AT rfl (HC.out _ _) (λ_ _ h=>⟨_,h.1⟩)) rfl ?_ ?_);rotate_left;intro ce cf bk
  rotate_right 1
  rintro _ cg ⟨⟨⟩,ag,bl⟩;revert az O G U sy Y F;refine eE bl ?_;intro az O G U sy Y F;refine eK ?_;refine A4 (AL AT rfl (HY.out _ _ Af Af Af _ (iR Af (λb h=>gq h)) Af) (λ_ _ h=>h.ret)) rfl ?_ ?_;rotate_left;intro ch ci bm
  rotate_right 1
  rintro _ cj ⟨ck,⟨⟩,aj,cl,bn⟩;revert O G U F;refine eF bn ?_;intro O G U F;refine eK ?_;refine A4 (AL AT rfl (HS.out _ _ Af) (λ_ _ h=>h.ret)) rfl ?_ ?_;rotate_left;intro cm cn bo
  rotate_right 1
  rintro _ a0 ⟨co,⟨⟩,ao,ah,bp⟩;revert O G U F;refine eF bp ?_;intro O G U F;refine cT (Aq (λwz=>Fr ((λk=> ¬(B9 P w aa k\/k=c.rb))) a0 wz) 11 (.pure 0 (.pure 1 (.pure 2 (.pure 3 (.pure 4 (.pure 5 (.pure 6 (.pure 7 (.pure 8 (.fork 9 (.fork 10 .tail .none) .none)))))))))) mixed AT Ag ?_);intro bq a1 _;have N:(λwz=>Fr ((λk=> ¬(B9 P w aa k\/k=c.rb))) a0 wz) bq:=iM a1;simp only at N;have av:=ah;have a9:=O;have an:=U;revert ah G F;refine eE a1 ?_;intro ah G F;refine ⟨N,?_⟩;refine eT ?_;refine Tq rfl (Ap Ac rfl rfl rfl (λwz hz=>iV (iN (Run.blk av) hz (by first|omega|(dsimp only;omega))) rfl)) (Tq rfl Pf (Tq rfl (Ap Ac rfl rfl rfl (λwz hz=>iV (iN an hz (λh=>h (gq (gt ⟨Ab,Ab⟩)))) rfl)) (Tq rfl Mv (Tq rfl (xL [_,_,_,_] (λwz hz=>(iN a9 hz (λh=>h (gq (gt ⟨Ab,Ab⟩)))))) ?_))));refine O9 rfl (AL AT rfl (HU.out _ _ Af Af) (λ_ _ h=>h.ret)) rfl ?_ ?_ AD;rotate_left;intro bz b0 ba
  rotate_right 1
  rintro _ b2 ⟨b3,⟨⟩,ap,bb⟩;revert N ah F;refine eE bb ?_;intro N ah F;refine ⟨N,?_⟩;refine tC rfl rfl (HL.out _ _ _ Af) ?_;rintro _ b4 ⟨⟨⟩,ai,aq⟩;have N:=iU N aq (λk hk=>gq hk);have F:=iU F aq (λk hk=>gq (λh=>hk (gq (gq h))));refine ⟨N,?_⟩;refine At rfl (A4 (AL AT rfl (HC.out _ _) (λ_ _ h=>⟨_,h.1⟩)) rfl ?_ ?_);rotate_left;intro b5 b6 bc
  rotate_right 1
  rintro _ b7 ⟨⟨⟩,bd,be⟩;revert ai F;refine eE be ?_;intro ai F;refine Ak (Bi rfl ?_);rotate_left;refine AF ?_;rotate_left;refine AF ?_;rotate_left;refine AH (AF ?_);rotate_left;refine AH (AF ?_);rotate_left;refine AH (AF ?_);rotate_left;refine AH (AF ?_);rotate_left;refine AH (AF ?_);rotate_left
 . exact EB ai F HR.out.sub (λk=>gq) (by rw [hZ];simp only [ab,ac,ag,aj,ao,ap,bd,gL,C3,ne_eq,not_true,not_false_iff,if_false,if_true])
 . exact D3 bc F (λe=>by rw [hZ];simp only [ab,ac,ag,aj,ao,ap,gL,C3,ne_eq,not_true,not_false_iff,if_false,if_true];rw [AQ e])
 . exact NL ba F (λer e=>by rw [hZ];simp only [ab,ac,ag,aj,ao,e,gL,C3,ne_eq,not_true,not_false_iff,if_false,if_true])
 . exact Bx bo F (λk=>gq) (λer e=>by rw [hZ];simp only [ab,ac,ag,aj,e,gL,C3,ne_eq,not_true,not_false_iff,if_false,if_true])
 . exact Bx bm F (λk=>gq) (λer e=>by rw [hZ];simp only [ab,ac,ag,e,gL,C3,ne_eq,not_true,not_false_iff,if_false,if_true])
 . exact D3 bk F (λe=>by rw [hZ];simp only [ab,ac,gL,C3,ne_eq,not_true,not_false_iff,if_false,if_true];rw [AQ e])
 . exact NL bi F (λer e=>by rw [hZ];simp only [ab,e,gL,C3,ne_eq,not_true,not_false_iff,if_false,if_true])
 . exact Bx bx F (λk=>gq) (λer e=>by rw [hZ];simp only [e,gL,C3,ne_eq,not_true,not_false_iff,if_false,if_true])
end
section
variable {c:RC} {P P':nP} {w w':wD} {r:Rn} {T:nP}
def WZ (hc:c.fuel<=10000) (IH:EC c d) (b:Bool) {n:Int} {s:List UInt8} (hy:x.isBlock=true) (a0:StOk c.g.procs (.mk 55 n s [x])) (a:Option Addr) (m:Nat) (w:World)
 (a1:AI c.g.procs (d+1) b (.mk 55 n s [x]) r≠.error (-1)) (hs:(Nd.mk 55 n s [x]).sits P w a) (h:Run c P w r) :
 Calls prog 162 #[.pointer (some ⟨c.rb,0,none⟩),(Nd.mk 55 n s [x]).val a m,.bool b] w (Dx c P (AI c.g.procs (d+1) b (.mk 55 n s [x]) r) w):=by
 have X:=iK w;have HR:=gp h;have a9:=h.lt;clear h;have hs:rowSits P w [x] a:=hs;obtain ⟨kb,ko,ya,yc,rfl,ak,N,O⟩:=V0 hs;have ba:=a0.kid (i:=0) rfl;clear a0;obtain ⟨B1,az⟩:∃B1,B1=AW (AI c.g.procs d) b x:=⟨_,rfl⟩;obtain ⟨Z,hZ⟩:∃Z,Z=AI c.g.procs (d+1) b (.mk 55 n s [x]) r:=⟨_,rfl⟩
 rw [<-hZ] at a1 ⊢
 replace hZ:Z=(Bn r).bind λr=>(C3 (·.opens ⟨s,3,0⟩ 0) r).bind λr=>(B1 r).bind λr=>(Bn r).bind (C3 (·.closes s 0)):=by
  rw [hZ,az];simp only [AI,show ¬((55:Int)=52) by decide,show ¬((55:Int)=53) by decide,show ¬((55:Int)=54) by decide,if_true,if_false]
  rfl
 obtain ⟨yk,yn,ys,yl⟩:=x;replace N:Row w ⟨kb,ko+0*4,none⟩ [.int .u8 yk,.int .i64 yn,str ys,.slice ya yl.length yc]:=N
 change Calls prog _ #[_,.agg #[.int .u8 55,.int .i64 n,str s,.slice (some ⟨kb,ko,none⟩) 1 m],_] w _
 have b4:=a9 kb ak;refine Ad func162 ntmps162 rfl rfl ?_
 refine cS (eB [_,_,_,_] ?_);intro b1 w2 U x5 p6 z7;replace X:=X.ext x5;clear hs;revert hs O N;refine eE x5 ?_;intro hs O N;clear x5;refine cT ?_
 have h1:=HR.out.more X;have F:Fr (λk=> ¬P k) w w2:=iM X;clear X hs;have HS:=gp (λr1 w1 h=>My (c:=c) (P:=B9 P w w2) (r:=r1) hc w1 h)
 unfold Dx at HS
 have HO:=gp (λr1 e w1 h=>Tw hc HR.out (B9 P w w2) ⟨s,3,0⟩ (gt rfl) rfl 0 r1 e w1 h)
 unfold VD.val at HO
 have HL:=gp (λr1 w1 h=>Tu (c:=c) (P:=B9 P w w2) (r:=r1) hc s 0 w1 h);have HC:=gp (λe w1=>In e (.pointer (some ⟨c.rb,0,none⟩)) w1)
 unfold Sg at HC
 have HY:=gp (λr1 (e:Bn r = .ok r1) (e3:(r1.st.opens ⟨s,3,0⟩ 0).1=0) w1 h1 h2=>IH (B9 P w w2) b _ ⟨(r1.st.opens ⟨s,3,0⟩ 0).2,r1.rem⟩ ya yc w1 hy ba (λe4=>a1 (by rw [hZ];simp only [e,gL,C3,e3,ne_eq,not_true,if_false];rw [az,e4])) h1 h2)
 rw [<-az] at HY
 unfold Dx at HY
 focus
  refine cS (C1 Pg (C1 (Pl U) (cT (As (cS (C1 V1 (C1 Pa (cT (Lb (cS (C1 V1 (C1 Pa (cT (Lb (cS (C1 V1 (C1 Pa (cT (Lb (cS (C1 V1 (C1 Pa (cT (Vv (cS (C1 Mv (A4 (AL AT rfl (HS.out _ _ Af) (λ_ _ h=>h.ret)) rfl ?_ ?_)))))))))))))))))))))))))));rotate_left;intro b5 b6 bb
  rotate_right 1
  rintro _ av ⟨bc,⟨⟩,aa,al,ab⟩;have bd:=ab.size;revert U O;refine eF ab ?_;intro U O;replace N:=i8 N ab (λh=>h (gq ak));replace F:=iU F ab (λk hk=>gq (λh=>hk (gq h)));clear ab;refine cT (Aj (Aq (λwz=>Fr ((λk=> ¬(B9 P w w2 k\/k=c.rb))) av wz) 9 (.pure 0 (.pure 1 (.pure 2 (.pure 3 (.pure 4 (.pure 5 (.pure 6 (.pure 7 (.fork 8 .tail .none))))))))) mixed AT (Aa (Ae Ag)) ?_));intro a2 af _;have G:(λwz=>Fr ((λk=> ¬(B9 P w w2 k\/k=c.rb))) av wz) a2:=iM af;simp only at G;have ag:=al;have ac:=U;have am:=O;have an:=N;have be:=af.size;revert al U O N F;refine eE af ?_;intro al U O N F;clear af;refine ⟨G,?_⟩;refine Tq rfl Mv (Tq rfl Mv (Tq rfl Pn (Tq rfl Pf (Tq rfl (Ap Ac rfl rfl rfl (λwz hz=>iV (iN (Run.blk ag) hz (by first|omega|(dsimp only;omega))) rfl)) ?_))));refine Tq rfl Pf (Tq rfl (Ap Ac rfl rfl rfl (λwz hz=>iV (iN ac hz (λh=>h (gq (gt ⟨Ab,Ab⟩)))) rfl)) (Tq rfl (DR [_,_,_] Ac Cs rfl rfl rfl rfl) (AE rfl (AR AT rfl (HO.out _ Af _ Af) (λ_ _ h=>⟨_,h.1⟩)) rfl ?_ aFh AD)));rintro _ bf ⟨⟨⟩,aw,V⟩;have bg:=V.size
  revert G U;refine eF V ?_;intro G U;replace O:=iL O V (λb hb h=>h (gq (gq hb)));replace N:=i8 N V (λh=>h (gq (gq ak)));replace F:=iU F V (λk hk=>gq (λh=>hk (gq (gq h))));clear V;refine ⟨G,?_⟩;clear ag ac am an G;refine At rfl (A4 (AL AT rfl (HC.out _ _) (λ_ _ h=>⟨_,h.1⟩)) rfl ?_ ?_);rotate_left;intro bh bi a3
  rotate_right 1
  rintro _ bj ⟨⟨⟩,ah,ao⟩;have bk:=ao.size;revert aw U O N F;refine eE ao ?_;intro aw U O N F;clear ao;refine cN (C1 Mv (C1 Pf (C1 (Pl U) (C1 Pi (BO [_,_,_,_] Ac rfl rfl rfl N rfl rfl rfl (C1 Mv (A4 (AL AT rfl (HY.out _ Af Af _ (iR Af (λb h=>gq h)) Af) (λ_ _ h=>h.ret)) rfl ?_ ?_)))))));rotate_left;intro bl bm a4
  rotate_right 1
  rintro _ bn ⟨bo,⟨⟩,ap,bp,ad⟩;have bq:=ad.size;revert U O;refine eF ad ?_;intro U O;replace N:=i8 N ad (λh=>h (gq ak));replace F:=iU F ad (λk hk=>gq (λh=>hk (gq h)));clear ad;refine cN (C1 Mv (A4 (AL AT rfl (HS.out _ _ Af) (λ_ _ h=>h.ret)) rfl ?_ ?_));rotate_left;intro br bs a5
  rotate_right 1
  rintro _ ax ⟨bt,⟨⟩,ay,aq,ae⟩;have bu:=ae.size;revert U O;refine eF ae ?_;intro U O;replace N:=i8 N ae (λh=>h (gq ak));replace F:=iU F ae (λk hk=>gq (λh=>hk (gq h)));clear ae;refine cT (Aq (λwz=>Fr ((λk=> ¬(B9 P w w2 k\/k=c.rb))) ax wz) 8 (.pure 0 (.pure 1 (.pure 2 (.pure 3 (.pure 4 (.pure 5 (.pure 6 (.fork 7 .tail .none)))))))) mixed AT (Ae Ag) ?_);intro a6 ai _;have M:(λwz=>Fr ((λk=> ¬(B9 P w w2 k\/k=c.rb))) ax wz) a6:=iM ai;simp only at M;have aj:=aq;have ac:=U;have am:=O;have an:=N;have bv:=ai.size;revert aq U O N F;refine eE ai ?_;intro aq U O N F;clear ai;refine ⟨M,?_⟩;refine Tq rfl Mv (Tq rfl Mv (Tq rfl Pn (Tq rfl Pf (Tq rfl (Ap Ac rfl rfl rfl (λwz hz=>iV (iN (Run.blk aj) hz (by first|omega|(dsimp only;omega))) rfl)) ?_))));refine Tq rfl Pf (Tq rfl (Ap Ac rfl rfl rfl (λwz hz=>iV (iN ac hz (λh=>h (gq (gt ⟨Ab,Ab⟩)))) rfl)) (AE rfl (AR AT rfl (HL.out _ _ Af) (λ_ _ h=>⟨_,h.1⟩)) rfl ?_ aFh AD));rintro _ bw ⟨⟨⟩,ar,Y⟩;have bx:=Y.size;revert M U;refine eF Y ?_;intro M U;replace O:=iL O Y (λb hb h=>h (gq (gq hb)))
  replace N:=i8 N Y (λh=>h (gq (gq ak)));replace F:=iU F Y (λk hk=>gq (λh=>hk (gq (gq h))));clear Y;refine ⟨M,?_⟩;clear aj ac am an M;refine At rfl (A4 (AL AT rfl (HC.out _ _) (λ_ _ h=>⟨_,h.1⟩)) rfl ?_ ?_);rotate_left;intro bz b0 a7
  rotate_right 1
  rintro _ b2 ⟨⟨⟩,a8,au⟩;have b3:=au.size;revert ar U O N F;refine eE au ?_;intro ar U O N F;clear au;refine Ak (Ah (Bi rfl ?_));rotate_left;refine AS (AF ?_);rotate_left;refine AH (AS (AF ?_));rotate_left;refine AH (AS (AF ?_));rotate_left;refine AH (AS (AF ?_));rotate_left;refine AH (AS (AF ?_));rotate_left
 . exact EB ar F HR.out.sub (λk=>gq) (by rw [hZ];simp only [aa,ah,ap,ay,a8,gL,C3,ne_eq,not_true,not_false_iff,if_false,if_true])
 . exact D3 a7 F (λe=>by rw [hZ];simp only [aa,ah,ap,ay,gL,C3,ne_eq,not_true,not_false_iff,if_false,if_true];rw [AQ e])
 . exact Bx a5 F (λk=>gq) (λer e=>by rw [hZ];simp only [aa,ah,ap,e,gL,C3,ne_eq,not_true,not_false_iff,if_false,if_true])
 . exact Bx a4 F (λk=>gq) (λer e=>by rw [hZ];simp only [aa,ah,e,gL,C3,ne_eq,not_true,not_false_iff,if_false,if_true])
 . exact D3 a3 F (λe=>by rw [hZ];simp only [aa,gL,C3,ne_eq,not_true,not_false_iff,if_false,if_true];rw [AQ e])
 . exact Bx bb F (λk=>gq) (λer e=>by rw [hZ];simp only [e,gL,C3,ne_eq,not_true,not_false_iff,if_false,if_true])
def Dd {S S':nP} {a:oA} (h:rowSits S w l a) (G:∀b,S b->S' b):rowSits S' w l a:=by
 have:=iR (t:=.mk 0 0 [] l) h G;exact this
def Lg (hc:c.fuel<=10000) (d:Nat) (b:Bool) {n:Int} {s:List UInt8} (hk:(40<=k/\k<=49)\/k=56) (au:(Nd.mk k n s l).isStmt=true) (ai:StOk c.g.procs (.mk k n s l)) (a:Option Addr) (m:Nat) (w:World) (N:(Nd.mk k n s l).sits P w a) (h:Run c P w r) :
 Calls prog 162 #[.pointer (some ⟨c.rb,0,none⟩),(Nd.mk k n s l).val a m,.bool b] w (Dx c P (AI c.g.procs (d+1) b (.mk k n s l) r) w):=by
 have X:=iK w;have HR:=gp h;clear h;have N:rowSits P w l a:=N;obtain ⟨Z,hZ⟩:∃Z,Z=AI c.g.procs (d+1) b (.mk k n s l) r:=⟨_,rfl⟩
 rw [<-hZ]
 rw [QL _ _ _ Ab] at hZ
 change Calls prog _ #[_,.agg #[.int .u8 k,.int .i64 n,str s,.slice a l.length m],_] w _
 refine Ad func162 ntmps162 rfl rfl ?_
 refine cS (Dl [_,_,_,_] rfl rfl rfl ?_);intro b1 w2 n3;have V:=n3.blk;have x5:=n3.ext;have p6:=n3.pos;have z7:=n3.size;clear n3 N;replace X:=X.ext x5;replace N:=jf N x5;clear x5;refine cT ?_
 have h1:=HR.out.more X;have F:Fr (λk=> ¬P k) w w2:=iM X;clear X;have HS:=gp (λr1 w1 h=>My (c:=c) (P:=B9 P w w2) (r:=r1) hc w1 h)
 unfold Dx at HS
 have HD:=gp (λr1 w1 h1 h2=>fC (c:=c) (P:=B9 P w w2) (r:=r1) hc hk au ai.wf ai.size a m w1 h1 h2);have HU:=gp (λr1 w1 h1 h2=>aZ (c:=c) (P:=B9 P w w2) (r:=r1) hc hk au ai.wf ai.size a m w1 h1 h2);have HC:=gp (λe w1=>In e (.pointer (some ⟨c.rb,0,none⟩)) w1)
 unfold Sg at HC
 clear au ai
 cases b
 . simp only [iE,if_false] at hZ
   focus
    refine cS (C1 Pg (C1 (Pl V) (cT (As (cS (C1 V1 (C1 Pa (cT (C6 (cS (C1 V1 (C1 Pa (cT (C6 (cS (C1 V1 (C1 Pa (cT (C6 (cS (C1 V1 (C1 Pa (cT (C6 (Aj (cS (C1 V1 (C1 Pa (cT (C6 (Al (C1 V1 (C1 Pa (cT (C6 (cS (C1 Mv (A4 (AL AT rfl (HS.out _ _ Af) (λ_ _ h=>h.ret)) rfl ?_ ?_))))))))))))))))))))))))))))))))))))));rotate_left;intro bl bm a1
    rotate_right 1
    rintro _ ao ⟨a3,⟨⟩,ap,aj,ad⟩;have a4:=ad.size;replace V:=iN V ad (λh=>h (gt ⟨Ab,Ab⟩));replace N:=jh N ad (λb hb h=>h (gq hb));replace F:=iU F ad (λk hk=>gq (λh=>hk (gq h)));clear ad;refine cN (C1 Mv (cT (AY rfl (Aq (λwz=>Fr ((λk=> ¬(B9 P w w2 k\/k=c.rb))) ao wz) 7 (.pure 0 (.pure 1 (.pure 2 (.pure 3 (.pure 4 (.pure 5 (.fork 6 .tail .none))))))) mixed AT (Ae Ag) ?_))));intro av O _;have G:(λwz=>Fr ((λk=> ¬(B9 P w w2 k\/k=c.rb))) ao wz) av:=iM O;simp only at G;have ag:=aj;have ae:=V;have ak:=N;have a5:=O.size;replace aj:=aj.ext O;replace V:=V.ext O;replace N:=jf N O;replace F:=F.ext O;clear O;refine ⟨G,?_⟩;refine Tq rfl Mv (Tq rfl Mv (Tq rfl Pn (Tq rfl Pf (Tq rfl (Ap Ac rfl rfl rfl (λwz hz=>iV (iN (Run.blk ag) hz (by first|omega|(dsimp only;omega))) rfl)) ?_))));refine Tq rfl (BP [_,_,_,_] Ac rfl rfl rfl (λwz hz=>(iN ae hz (λh=>h (gq (gt ⟨Ab,Ab⟩))))) rfl rfl) (AE rfl (AR AT rfl (HD.out _ _ (Dd Af (λb h=>gq h)) Af) (λ_ _ h=>⟨_,h.1⟩)) rfl ?_ aFh AD);rintro _ a6 ⟨⟨⟩,al,Y⟩
    have a7:=Y.size;replace G:=iU G Y (λk hk=>gq hk);replace V:=iN V Y (λh=>h (gq (gt ⟨Ab,Ab⟩)));replace N:=jh N Y (λb hb h=>h (gq (gq hb)));replace F:=iU F Y (λk hk=>gq (λh=>hk (gq (gq h))));clear Y;refine ⟨G,?_⟩;clear ag ae ak G;refine At rfl (A4 (AL AT rfl (HC.out _ _) (λ_ _ h=>⟨_,h.1⟩)) rfl ?_ ?_);rotate_left;intro a8 a9 aw
    rotate_right 1
    rintro _ ba ⟨⟨⟩,ax,aa⟩;have bb:=aa.size;replace al:=al.ext aa;replace V:=V.ext aa;replace N:=jf N aa;replace F:=F.ext aa;clear aa;refine Ak (Ah (Bi rfl ?_));rotate_left;refine AS (AF ?_);rotate_left;refine AH (AS (AF ?_));rotate_left
   . exact EB al F HR.out.sub (λk=>gq) (by rw [hZ];simp only [ap,ax,gL,C3,ne_eq,not_true,not_false_iff,if_false,if_true])
   . exact D3 aw F (λe=>by rw [hZ];simp only [ap,gL,C3,ne_eq,not_true,not_false_iff,if_false,if_true];rw [AQ e])
   . exact Bx a1 F (λk=>gq) (λer e=>by rw [hZ];simp only [e,gL,C3,ne_eq,not_true,not_false_iff,if_false,if_true])
 . simp only [if_true] at hZ
   focus
    refine cS (C1 Pg (C1 (Pl V) (cT (As (cS (C1 V1 (C1 Pa (cT (C6 (cS (C1 V1 (C1 Pa (cT (C6 (cS (C1 V1 (C1 Pa (cT (C6 (cS (C1 V1 (C1 Pa (cT (C6 (Aj (cS (C1 V1 (C1 Pa (cT (C6 (Al (C1 V1 (C1 Pa (cT (C6 (cS (C1 Mv (A4 (AL AT rfl (HS.out _ _ Af) (λ_ _ h=>h.ret)) rfl ?_ ?_))))))))))))))))))))))))))))))))))))));rotate_left;intro bn bo a2
    rotate_right 1
    rintro _ aq ⟨bc,⟨⟩,ar,am,af⟩;have bd:=af.size;replace V:=iN V af (λh=>h (gt ⟨Ab,Ab⟩));replace N:=jh N af (λb hb h=>h (gq hb));replace F:=iU F af (λk hk=>gq (λh=>hk (gq h)));clear af;refine cN (C1 Mv (cT (BJ rfl (Aq (λwz=>Fr ((λk=> ¬(B9 P w w2 k\/k=c.rb))) aq wz) 7 (.pure 0 (.pure 1 (.pure 2 (.pure 3 (.pure 4 (.pure 5 (.fork 6 .tail .none))))))) mixed AT (Ae Ag) ?_))));intro ay U _;have M:(λwz=>Fr ((λk=> ¬(B9 P w w2 k\/k=c.rb))) aq wz) ay:=iM U;simp only at M;have ah:=am;have ae:=V;have ak:=N;have be:=U.size;replace am:=am.ext U;replace V:=V.ext U;replace N:=jf N U;replace F:=F.ext U;clear U;refine ⟨M,?_⟩;refine Tq rfl Mv (Tq rfl Mv (Tq rfl Pn (Tq rfl Pf (Tq rfl (Ap Ac rfl rfl rfl (λwz hz=>iV (iN (Run.blk ah) hz (by first|omega|(dsimp only;omega))) rfl)) ?_))));refine Tq rfl (BP [_,_,_,_] Ac rfl rfl rfl (λwz hz=>(iN ae hz (λh=>h (gq (gt ⟨Ab,Ab⟩))))) rfl rfl) (AE rfl (AR AT rfl (HU.out _ _ (Dd Af (λb h=>gq h)) Af) (λ_ _ h=>⟨_,h.1⟩)) rfl ?_ aFh AD);rintro _ bf ⟨⟨⟩,an,ab⟩
    have bg:=ab.size;replace M:=iU M ab (λk hk=>gq hk);replace V:=iN V ab (λh=>h (gq (gt ⟨Ab,Ab⟩)));replace N:=jh N ab (λb hb h=>h (gq (gq hb)));replace F:=iU F ab (λk hk=>gq (λh=>hk (gq (gq h))));clear ab;refine ⟨M,?_⟩;clear ah ae ak M;refine At rfl (A4 (AL AT rfl (HC.out _ _) (λ_ _ h=>⟨_,h.1⟩)) rfl ?_ ?_);rotate_left;intro bh bi az
    rotate_right 1
    rintro _ bj ⟨⟨⟩,a0,ac⟩;have bk:=ac.size;replace an:=an.ext ac;replace V:=V.ext ac;replace N:=jf N ac;replace F:=F.ext ac;clear ac;refine Ak (Ah (Bi rfl ?_));rotate_left;refine AS (AF ?_);rotate_left;refine AH (AS (AF ?_));rotate_left
   . exact EB an F HR.out.sub (λk=>gq) (by rw [hZ];simp only [ar,a0,gL,C3,ne_eq,not_true,not_false_iff,if_false,if_true])
   . exact D3 az F (λe=>by rw [hZ];simp only [ar,gL,C3,ne_eq,not_true,not_false_iff,if_false,if_true];rw [AQ e])
   . exact Bx a2 F (λk=>gq) (λer e=>by rw [hZ];simp only [e,gL,C3,ne_eq,not_true,not_false_iff,if_false,if_true])
end
def EJ (l:List Nd) (j:Nat):List lB:=(l.take j).map jd++gT (l.length-j) []
def QQ (l:List Nd) (j:Nat) (h:j<=l.length):(EJ l j).length=l.length:=by simp [EJ];omega
def QR (l:List Nd) (j:Nat) (h:j<l.length):(EJ l j).set j (l[j]).name=EJ l (j+1):=by
 unfold EJ;have G:((l.take j).map jd).length=j:=by simp;omega
 have M:(gT (l.length-j) ([]:lB))=[]::gT (l.length-(j+1)) []:=by
  rw [show l.length-j=(l.length-(j+1))+1 by omega,List.replicate_succ]
 rw [List.set_append_right _ _ Ab,G,Nat.sub_self,M,List.set_cons_zero,gx h,List.map_append,gZ];rfl
def QS (l:List Nd):EJ l l.length=l.map jd:=by simp [EJ]
def ArrS.rowsStr {C D:Nat} {w:wD} {xs:List lB} (h:ArrS strShape C D w g xs) {S:nP} (M:S g):Rows S w (xs.map str) (some ⟨g,0,none⟩):=by
 refine gt ⟨g,0,rfl,M,λi v G=>?_⟩;rw [gV] at G;cases hx:xs[i]? with
 | none=>rw [hx] at G;cases G
 | some x=>
  rw [hx] at G;obtain rfl:=gB G;obtain ⟨cs,N,rfl⟩:=h.row hx;have:=N.at0 rfl;rw [show strShape.sz=1 from rfl,Nat.mul_one,iu] at this;have e:(⟨g,0,none⟩:Addr).add i=⟨g,i,none⟩:=by unfold iC;by_cases O:i=0<;>simp [O]
  rw [e];exact this
section
variable {c:RC} {P P':nP} {w w':wD} {r:Rn} {T:nP}
def Run.ent (h:Run c P w r):∃es:List Int,es.length=c.g.procs.length/\Blk w c.eb (AX es):=by
 obtain ⟨_,_,h⟩:=h;exact h.ent
def Run.offE (h:Run c P w r):∀k,P k -> ¬k=c.eb:=by
 obtain ⟨_,_,h⟩:=h;exact λk G e=>(h.off k G).1 (by rw [e,h.rolE];exact gt (gt rfl))
def Run.neER (h:Run c P w r):c.rb≠c.eb:=by
 obtain ⟨_,_,h⟩:=h;intro e;have G:=h.role;rw [e,h.rolE] at G;simp at G
def Run.procs (h:Run c P w r):PDs c.S w c.g.procs c.pa:=by
 obtain ⟨_,_,h⟩:=h;exact h.procs
def Run.bump (h:Run c P w r) (x:Fr (· = c.eb) w w') {es:List Int} (V:es.length=c.g.procs.length) (X:Blk w' c.eb (AX es)):Run c P w' r:=by
 obtain ⟨ρ,κ,U,O,Y,Z,-,h7,h8,h9,N,M⟩:=h;have hs:=x.size;have hP:∀k,P k -> ¬k=c.eb:=λk G e=>(M k G).1 (by rw [e,O];exact gt (gt rfl))
 refine ⟨ρ,κ,U,O,Y,Z.fr x (λe=>by rw [show c.rb=c.eb from e,O] at U;simp at U),⟨es,V,X⟩,h7.fr x (λk G e=>by rw [show k=c.eb from G,O] at e;exact e),h8,h9.frS x (λk G e=>hP k (N k G) e),N,λk G=>⟨(M k G).1,by have:=(M k G).2;omega⟩⟩
def QT {P:Program} {m:Nat} {l:Sl} {tab:Tab} {ty:TypeId} {w:wD} {x y:Operand} {t:Nat} {s:Sk} (TT:TabOk P tab) (ht:Az tab t=some (s,1)) (hx:ev l x=some (.pointer (some ⟨g,0+i*1,none⟩))) (hy:ev l y=some (.int .i64 u))
 (hb:Blk w g (AX xs)) (hi:i<xs.length) :
 BD P m l (.store t x y) ty w (FY λw'=>Blk w' g (AX (xs.set i u))/\Fr (· = g) w w'/\w'.heap.size=w.heap.size):=by
 have hd:=Do (P:=P) (n:=m) (l:=l) (ty:=ty) (us:=[.int .i64 u]) TT ht hx hy rfl rfl rfl hb (by rw [Nat.ble_eq];simp [AX];omega);unfold BD at hd ⊢;intro a dst pos after gd next Q ha hn b;refine hd a dst pos after gd next Q ha (λv' w' h=>h.elim) (λw' hP=>b w' ⟨?_,hP.fr,hP.size⟩);have h1:=hP.blk;rw [iu,Nat.mul_one] at h1;simpa [A8,AX,List.map_set] using h1
structure ProcsOk (g:PG):Prop where
 few:g.procs.length<=1000000
 blk:∀p∈g.procs,p.body.isBlock=true/\StOk g.procs p.body/\p.params.length<=1000
def W0 (hc:c.fuel<=10000) (hg:ProcsOk c.g) (IH:EC c d) (b:Bool) {n:Int} {s:List UInt8} (hp:CA c.g.procs s=some i) (hl:l.length<=8) (a:Option Addr) (m:Nat) (w:World)
 (bf:((Bn r).bind λr=>(C3 (·.enters (c.g.procs.getD i ⟨[],[],.mk 0 0 [] []⟩).params (l.map jd)) r).bind λr=>
  (AW (AI c.g.procs d) b (c.g.procs.getD i ⟨[],[],.mk 0 0 [] []⟩).body r).bind λr=>(Bn r).bind (C3 (·.leaves)))≠.error (-1)) (hs:(Nd.mk k n s l).sits P w a) (h:Run c P w r) :
 Calls prog 194 #[.pointer (some ⟨c.rb,0,none⟩),(Nd.mk k n s l).val a m,.bool b] w (Dx c P ((Bn r).bind λr=>(C3 (·.enters (c.g.procs.getD i ⟨[],[],.mk 0 0 [] []⟩).params (l.map jd)) r).bind λr=>
  (AW (AI c.g.procs d) b (c.g.procs.getD i ⟨[],[],.mk 0 0 [] []⟩).body r).bind λr=>(Bn r).bind (C3 (·.leaves))) w):=by
 have X:=iK w;have HR:=gp h;have bg:=h.lt
 have hi:i<c.g.procs.length:=by
  unfold CA at hp
  exact (List.findIdx?_eq_some_iff_getElem.1 hp).1
 obtain ⟨p,br⟩:∃p,p=c.g.procs.getD i ⟨[],[],.mk 0 0 [] []⟩:=⟨_,rfl⟩
 rw [<-br] at bf ⊢
 have bx:c.g.procs[i]? = some p:=by rw [br,gY,gm hi];rfl
 clear br;obtain ⟨cd,ce,cf⟩:=hg.blk p (io bx);have HP:=gp (λw1 h1=>Oy c.g hg.few s c.S c.va c.vc c.pa c.pc c.ma c.mc w1 h1);rw [show Gn c.g.procs s=(i:Int) by unfold Gn;rw [hp]] at HP;have hs:rowSits P w l a:=hs;obtain ⟨B1,bt⟩:∃B1,B1=AW (AI c.g.procs d) b p.body:=⟨_,rfl⟩
 rw [<-bt] at bf ⊢
 obtain ⟨Z,hZ⟩:∃Z,Z=((Bn r).bind λr=>(C3 (·.enters p.params (l.map jd)) r).bind λr=>(B1 r).bind λr=>(Bn r).bind (C3 (·.leaves))):=⟨_,rfl⟩
 rw [<-hZ] at bf ⊢
 clear h hp
 change Calls prog _ #[_,.agg #[.int .u8 k,.int .i64 n,str s,.slice a l.length m],_] w _
 refine Ad func194 ntmps194 rfl rfl ?_
 refine cS (Dl [_,_,_,_] rfl rfl rfl ?_);intro b1 w2 n3;have V:=n3.blk;have x5:=n3.ext;have p6:=n3.pos;have z7:=n3.size;clear n3 hs;replace X:=X.ext x5;replace hs:=jf hs x5;clear x5;refine cN (C1 Pf (C1 (Pl V) (C1 Pz (Ax (Dj (sh:=strShape) (C:=0) (D:=0) (N:=l.length) (z:=[]) Ac Cs rfl rfl rfl rfl AT rfl rfl Ab (λ_ _=>rfl)) rfl ?_ aFh))));rintro _ cg ⟨g8,rfl,h9,di,dk,a3⟩;have dl:=a3.size;replace V:=V.ext a3;replace X:=X.ext a3;replace hs:=jf hs a3;clear a3;refine C1 Pa (cT (Aj (cS (C1 Pf (C1 (Pl V) (C1 Pz (C1 Mv (cT ?_))))))))
 have hA:ArrS strShape 0 0 cg g8 (EJ l 0):=by simpa [EJ] using h9
 clear h9;refine As ?_;refine AG (ι:=Nat) (λj=>[(0,.pointer (some ⟨c.rb,0,none⟩)),(2,.bool b),(4,.pointer (some ⟨b1,0,none⟩)),(6,.slice (some ⟨g8,0,none⟩) l.length l.length),(16,.slice a l.length m),(17,.int .i64 l.length),(18,.int .i64 j)])
  (λj w'=>j<=l.length/\ArrS strShape 0 0 w' g8 (EJ l j)/\Blk w' b1 [.int .u8 k,.int .i64 n,str s,.slice a l.length m]/\rowSits P w' l a/\Ext w w'/\b1+2<=w'.heap.size)
  (λj=>l.length-j) 0 sB ⟨gC _,hA,V,hs,X,Ab⟩ ?_
 clear hA V hs X;rintro j w1 ⟨hj,hA,V,hs,X,hz⟩
 by_cases a4:j<l.length
 . obtain ⟨kb,ko,rfl,dm,bi⟩:=BI hs (by intro e;subst e;simp at a4);obtain ⟨xa,xc,rx,sx⟩:=bi j l[j] (gm a4);have bu:=QR l j a4;have dn:=QQ l j hj;clear bi
   generalize l[j]=x at *
   obtain ⟨xk,xn,xs,xl⟩:=x;replace rx:Row w1 ⟨kb,ko+j*4,none⟩ [.int .u8 xk,.int .i64 xn,str xs,.slice xa xl.length xc]:=rx
   focus
    refine cS (C1 V3 (cT (Aj (O8 (Ao (Ai (Aj (As (cS (C1 Mv (C1 Pi (C1 (VF rx) (eA [_,_,_,_] ?_)))))))))))));intro dp dq bz ay dr ds;replace hA:=hA.ext ay;replace X:=X.ext ay;replace V:=V.ext ay;replace hs:=jf hs ay;replace sx:=jn sx ay;replace rx:=rx.ext ay;clear ay;refine C1 Pa (eS [_,_,_,_] bz ?_);intro dt a5 ar cn;clear bz;replace hA:=hA.fr ar Ab;replace X:=X.fr ar Ab;replace V:=V.fr ar Ab;replace hs:=jh hs ar (λb U h=>by (have h1:=bg b U;have e:b=_:=h;omega));replace sx:=iL sx ar (λb U h=>by (have h1:=bg b U;have e:b=_:=h;omega));clear rx ar;refine cT (Al (C1 Mv (C1 Mv (C1 Pf (C1 (Pl a5) (C1 Pi (A2 (B7 (sh:=strShape) (j:=j) (z:=xs) (us:=[_]) Ac rfl rfl rfl rfl rfl rfl Af Ab Ab rfl) (BA ?_))))))));rintro _ co ⟨cp,ao,cq⟩;have cr:=ao.size;replace a5:=a5.fr ao Ab;clear hA;replace X:=X.fr ao Ab;replace V:=V.fr ao Ab;replace hs:=jh hs ao (λb U h=>by (have h1:=bg b U;have e:b=_:=h;omega));replace sx:=iL sx ao (λb U h=>by (have h1:=bg b U;have e:b=_:=h;omega));clear ao;refine Ak (Ah (Ai (Al (C1 V7 (C1 Mv (Ak ?_))))))
    rotate_left
   exact Aw (j+1) sB ⟨Ab,by rw [<-bu];assumption,Af,Af,X,Ab⟩ Ab
 . obtain rfl:j=l.length:=by omega
   rw [QS] at hA
   refine cS (C1 V3 (cT (Aj (C6 (BF (Av (Av (AO (Ai ?_)))))))))
   have ad:=(HR.out.ext X).blk;have aq:=(HR.out.ext X).procs;obtain ⟨pb,po,ch,b0,bj⟩:=aq.get (by intro e;rw [e] at hi;simp at hi);obtain ⟨qa,qc,ba,bc,rp,rv,sb⟩:=bj i p bx;have O:=HR.out.sub;rw [ch] at ad aq HP;clear bj;obtain ⟨pn,b2,ci⟩:=p;obtain ⟨bk,bn,bs,bl⟩:=ci;dsimp only at *
   refine Aj (Aq (λwz=>Ext w1 wz) 6 (.pure 0 (.pure 1 (.pure 2 (.pure 3 (.pure 4 (.pure 5 .tail)))))) mixed AT (Aa Ag) ?_);intro cj an _;have a6:(λwz=>Ext w1 wz) cj:=an;simp only at a6;have az:=V;have b3:=hs;have b4:=hA;have bv:=aq;have a7:=ad;have a8:=rp;have a9:=rv;have bb:=sb;have du:=an.size;replace V:=V.ext an;replace hs:=jf hs an;replace X:=X.ext an;replace hA:=hA.ext an;replace aq:=aq.ext an;replace ad:=ad.ext an;replace rp:=rp.ext an;replace rv:=rv.ext an;replace sb:=jn sb an;clear an;refine ⟨a6,?_⟩;refine Tq rfl Mv (Tq rfl Pn (Tq rfl Pg (Tq rfl (BP [_,_,_,_,_,_] Ac rfl rfl rfl (λwz hz=>(iW a7 hz)) rfl rfl) (Tq rfl Pf (Tq rfl (Db az) ?_)))));clear a6 az b3 b4 bv a7 a8 a9 bb;refine At rfl (cC rfl (HP.out _ Af) ?_);rintro _ dv ⟨⟨⟩,ap⟩;have dw:=ap.size;replace V:=V.ext ap;replace hs:=jf hs ap;replace X:=X.ext ap;replace hA:=hA.ext ap;replace aq:=aq.ext ap;replace ad:=ad.ext ap;replace rp:=rp.ext ap;replace rv:=rv.ext ap;replace sb:=jn sb ap;clear ap;refine C1 Pa (cN (C1 Mv (C1 Pn (C1 Pg (C1 Pf (C1 (Pl ad) (C1 Mv (C1 Pi (C1 (VF rp) (En [_,_,_,_,_,_] Cs rfl rfl ?_))))))))));intro dx ck ai;refine Dq [_,_,_,_,_,_] Ac rfl rfl rfl rfl rfl rfl ai rfl ?_
   clear ai;clear ck;intro ae ai;have G:=ai.blk;dsimp only at G;have aa:=ai.ext;have ct:=ai.pos;have cu:=ai.size;clear ai;replace V:=V.ext aa;replace hs:=jf hs aa;replace X:=X.ext aa;replace hA:=hA.ext aa;replace aq:=aq.ext aa;replace ad:=ad.ext aa;replace rp:=rp.ext aa;replace rv:=rv.ext aa;replace sb:=jn sb aa;clear aa;refine cT ?_
   have h1:=HR.out.more X;have M:Rows (B9 P w ae) ae ((l.map jd).map str) (some ⟨g8,0,none⟩):=hA.rowsStr (gt ⟨Ab,Ab⟩);have F:Fr (λk=> ¬P k) w ae:=iM X;clear X hs hA ad aq;have HS:=gp (λr1 w1 h=>My (c:=c) (P:=B9 P w ae) (r:=r1) hc w1 h)
   unfold Dx at HS
   have HE:=gp (λr1 w1 h1 h2 h3=>Zi (c:=c) (P:=B9 P w ae) (r:=r1) hc b2 (l.map jd) cf qa (some ⟨g8,0,none⟩) qc l.length w1 h1 h2 h3);simp only [List.length_map] at HE;have HC:=gp (λe w1=>In e (.pointer (some ⟨c.rb,0,none⟩)) w1)
   unfold Sg at HC
   focus
    refine cS (C1 Mv (A4 (AL AT rfl (HS.out _ _ Af) (λ_ _ h=>h.ret)) rfl ?_ ?_));rotate_left;intro dy dz cl
    rotate_right 1
    rintro _ bm ⟨bo,⟨⟩,au,a0,af⟩;have cv:=af.size;replace G:=iN G af (λh=>h (gt ⟨Ab,Ab⟩));replace V:=iN V af (λh=>h (gt ⟨Ab,Ab⟩));replace rp:=i8 rp af (λh=>h (gq (O _ b0)));replace rv:=jm rv af (λb U h=>h (gq (O _ U)));replace sb:=iL sb af (λb U h=>h (gq (O _ U)));replace M:=Rows.fr M af (λb U h=>h U);replace F:=iU F af (λk hk=>gq (λh=>hk (gq h)));clear af;refine cT (Aj (Aq (λwz=>Fr ((λk=> ¬(B9 P w ae k\/k=c.rb))) bm wz) 9 (.pure 0 (.pure 1 (.pure 2 (.pure 3 (.pure 4 (.pure 5 (.pure 6 (.pure 7 (.fork 8 .tail .none))))))))) mixed AT (Aa Ag) ?_));intro b5 Y _;have ah:(λwz=>Fr ((λk=> ¬(B9 P w ae k\/k=c.rb))) bm wz) b5:=iM Y;simp only at ah;have a1:=a0;have a2:=G;have az:=V;have a8:=rp;have a9:=rv;have bb:=sb;have bh:=M;have cw:=Y.size;replace a0:=a0.ext Y;replace G:=G.ext Y;replace V:=V.ext Y;replace rp:=rp.ext Y;replace rv:=rv.ext Y;replace sb:=jn sb Y;replace M:=M.ext Y;replace F:=F.ext Y;clear Y;refine ⟨ah,?_⟩;refine Tq rfl Mv (Tq rfl Mv (Tq rfl Pn (Tq rfl Pf (Tq rfl (Ap Ac rfl rfl rfl (λwz hz=>iV (iN (Run.blk a1) hz (by first|omega|(dsimp only;omega))) rfl)) ?_))))
    refine Tq rfl Pf (Tq rfl (Ap Ac rfl rfl rfl (λwz hz=>iV (iN a2 hz (λh=>h (gq (gt ⟨Ab,Ab⟩)))) rfl)) (Tq rfl Mv (AE rfl (AR AT rfl (HE.out _ _ Af (VDs.wide Af (λb h=>gq (O _ h))) Af) (λ_ _ h=>⟨_,h.1⟩)) rfl ?_ aFh AD)));rintro _ cx ⟨⟨⟩,aj,ab⟩;have cy:=ab.size;replace ah:=iU ah ab (λk hk=>gq hk);replace G:=iN G ab (λh=>h (gq (gt ⟨Ab,Ab⟩)));replace V:=iN V ab (λh=>h (gq (gt ⟨Ab,Ab⟩)));replace rp:=i8 rp ab (λh=>h (gq (gq (O _ b0))));replace rv:=jm rv ab (λb U h=>h (gq (gq (O _ U))));replace sb:=iL sb ab (λb U h=>h (gq (gq (O _ U))));replace M:=Rows.fr M ab (λb U h=>h (gq U));replace F:=iU F ab (λk hk=>gq (λh=>hk (gq (gq h))));clear ab;refine ⟨ah,?_⟩;clear a1 a2 az a8 a9 bb bh ah;refine At rfl (A4 (AL AT rfl (HC.out _ _) (λ_ _ h=>⟨_,h.1⟩)) rfl ?_ ?_);rotate_left;intro cz c0 b6
    rotate_right 1
    rintro _ bp ⟨⟨⟩,ax,ac⟩;have c1:=ac.size;replace aj:=aj.ext ac;replace G:=G.ext ac;replace V:=V.ext ac;replace rp:=rp.ext ac;replace rv:=rv.ext ac;replace sb:=jn sb ac;replace M:=M.ext ac;replace F:=F.ext ac;clear ac;refine cT ?_;rotate_left;refine AH (AF ?_);rotate_left;refine AH (AF ?_);rotate_left
   . obtain ⟨es,d0,bw⟩:=aj.ent;have av:=aj.offE
     have b7:Row bp ⟨c.eb,0+i*1,none⟩ [.int .i64 (es.getD i 0)]:=λj v hj=>by
      cases j with
      | zero=>
       simp only [gX,gy] at hj;subst hj;rw [iu,Nat.mul_one]
       exact bw.cell (by simp [AX,gm (show i<es.length by omega),gY])
      | succ j=>simp at hj
     have c2:=bw.lt;have ad:=aj.blk;have H1:=gp aj;have d1:=aj.neER;have F2:=iP (· = c.eb) bp;have HF:=gp F;clear aj a0 F
     refine cS (C1 Mv (C1 Pn (C1 Pf (C1 (Pl ad) (C1 Mv (C1 Pi (C1 (SR b7) (C1 (Je rfl rfl) (C1 Pi (A2 (QT Ac rfl rfl rfl Af Ab) (BA ?_)))))))))));rintro _ d2 ⟨b8,aw,d3⟩;have d4:=aw.size;replace G:=iN G aw (λe=>av _ (gt ⟨Ab,Ab⟩) e);replace V:=iN V aw (λe=>av _ (gt ⟨Ab,Ab⟩) e);clear rp;replace rv:=jm rv aw (λb U e=>av b (gq (O _ U)) e);replace sb:=iL sb aw (λb U e=>av b (gq (O _ U)) e);replace M:=M.fr aw Ab;clear bw b7;replace ad:=iN ad aw (λe=>av _ (gt ⟨Ab,Ab⟩) e);replace F2:=F2.fr aw Ab;clear aw;refine cT ?_
     have h2:=H1.out.bump F2 (by rw [List.length_set];omega) b8;have F:=HF.out.fr F2 (λk hk=>gq (λh=>av k (gq h) hk));clear F2 b8;have HL:=gp (λr1 w1 h=>Zh (c:=c) (P:=B9 P w ae) (r:=r1) hc w1 h);have HY:=gp (λw1 h1 h2=>IH (B9 P w ae) b (.mk bk bn bs bl) ⟨(bo.st.enters b2 (l.map jd)).2,bo.rem⟩ ba bc w1 cd ce (λe4=>bf (by rw [hZ];simp only [au,gL,C3,ax,ne_eq,not_true,if_false];rw [bt,e4])) h1 h2)
     rw [<-bt] at HY
     unfold Dx at HY
     focus
      refine cS (C1 Mv (C1 Pf (A3 [_,_,_,_] Ac rfl rfl rfl G rfl rfl rfl (C1 Mv (A4 (AL AT rfl (HY.out _ (iR Af (λb h=>gq (O _ h))) Af) (λ_ _ h=>h.ret)) rfl ?_ ?_)))));rotate_left;intro d5 d6 cm
      rotate_right 1
      rintro _ c3 ⟨c4,⟨⟩,bd,c5,ak⟩;have c6:=ak.size;replace G:=iN G ak (λh=>h (gt ⟨Ab,Ab⟩));replace V:=iN V ak (λh=>h (gt ⟨Ab,Ab⟩));replace rv:=jm rv ak (λb U h=>h (gq (O _ U)));replace sb:=iL sb ak (λb U h=>h (gq (O _ U)));replace M:=Rows.fr M ak (λb U h=>h U);clear ad;replace F:=iU F ak (λk hk=>gq (λh=>hk (gq h)));clear ak;refine cN (C1 Mv (A4 (AL AT rfl (HS.out _ _ Af) (λ_ _ h=>h.ret)) rfl ?_ ?_));rotate_left;intro c7 c8 b9
      rotate_right 1
      rintro _ c9 ⟨da,⟨⟩,bq,ca,al⟩;have db:=al.size;replace G:=iN G al (λh=>h (gt ⟨Ab,Ab⟩));replace V:=iN V al (λh=>h (gt ⟨Ab,Ab⟩));replace rv:=jm rv al (λb U h=>h (gq (O _ U)));replace sb:=iL sb al (λb U h=>h (gq (O _ U)));replace M:=Rows.fr M al (λb U h=>h U);replace F:=iU F al (λk hk=>gq (λh=>hk (gq h)));clear al;refine cT (Al (C1 Mv (C1 Mv (C1 Pn (C1 Pf (C1 (Pl (Run.blk ca)) (cC rfl (HL.out _ _ Af) ?_)))))));rintro _ dc ⟨⟨⟩,be,am⟩;have dd:=am.size;replace G:=iN G am (λh=>h (gq (gt ⟨Ab,Ab⟩)));replace V:=iN V am (λh=>h (gq (gt ⟨Ab,Ab⟩)));replace rv:=jm rv am (λb U h=>h (gq (gq (O _ U))));replace sb:=iL sb am (λb U h=>h (gq (gq (O _ U))));replace M:=Rows.fr M am (λb U h=>h (gq U));replace F:=iU F am (λk hk=>gq (λh=>hk (gq (gq h))));clear am;refine A4 (AL AT rfl (HC.out _ _) (λ_ _ h=>⟨_,h.1⟩)) rfl ?_ ?_;rotate_left;intro de df cb
      rotate_right 1
      rintro _ dg ⟨⟨⟩,cc,ag⟩;have dh:=ag.size;replace be:=be.ext ag;replace G:=G.ext ag;replace V:=V.ext ag;replace rv:=rv.ext ag;replace sb:=jn sb ag;replace M:=M.ext ag;replace F:=F.ext ag;clear ag;refine Ak (Bi rfl ?_);rotate_left;refine AF ?_;rotate_left;refine AH (AF ?_);rotate_left;refine AH (AF ?_);rotate_left
     . exact EB be F HR.out.sub (λk=>gq) (by rw [hZ];simp only [au,ax,bd,bq,cc,gL,C3,ne_eq,not_true,not_false_iff,if_false,if_true])
     . exact D3 cb F (λe=>by rw [hZ];simp only [au,ax,bd,bq,gL,C3,ne_eq,not_true,not_false_iff,if_false,if_true];rw [AQ e])
     . exact Bx b9 F (λk=>gq) (λer e=>by rw [hZ];simp only [au,ax,bd,e,gL,C3,ne_eq,not_true,not_false_iff,if_false,if_true])
     . exact Bx cm F (λk=>gq) (λer e=>by rw [hZ];simp only [au,ax,e,gL,C3,ne_eq,not_true,not_false_iff,if_false,if_true])
   . exact D3 b6 F (λe=>by rw [hZ];simp only [au,gL,C3,ne_eq,not_true,not_false_iff,if_false,if_true];rw [AQ e])
   . exact Bx cl F (λk=>gq) (λer e=>by rw [hZ];simp only [e,gL,C3,ne_eq,not_true,not_false_iff,if_false,if_true])
end
end Bk
