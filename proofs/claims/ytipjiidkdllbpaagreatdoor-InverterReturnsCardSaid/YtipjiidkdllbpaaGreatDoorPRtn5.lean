/- Texts that the proofs of InverterReturns need. No condition. (Part 5 of 8.) -/
import Derived.Test.YtipjiidkdllbpaaGreatDoorPRtn4
set_option linter.unusedSimpArgs false
set_option linter.unusedVariables false
set_option linter.defProp false
set_option maxRecDepth 100000
set_option maxHeartbeats 4000000
open Go.Proofs.Tryz
open List renaming getElem?_eq_getElem->bT,getD_eq_getElem?_getD->cB,length_cons->cF,getElem?_eq_none->cI,getElem?_append_left->cK,getElem_mem->cL,length_append->cP,getElem?_append_right->cW,take_length->dB,length_nil->dD,getElem?_cons_zero->dF,take_succ_eq_append_getElem->dG,drop_eq_getElem_cons->dH,replicate->dJ,mem_of_getElem?->dL,append_assoc->dP,mem_cons->dQ,getElem?_map->dZ,length_take->eH,not_mem_nil->eP
open Go.Lib renaming hid->bU
open Or renaming inl->bW,inr->bX
open Bool renaming and_eq_true->bZ,false_eq_true->dK
open Option.some renaming inj->cD,injEq->cE
open Go.Result renaming andThen->cG
open Nat renaming le_refl->cH,lt_or_ge->cO,zero_le->cQ,blt->cV,le_of_ble_eq_true->dE,eq_of_beq_eq_true->dO,le_trans->dV,ble->dW,beq->eC,zero_add->eJ
open Except renaming bind->cJ
open Go.Sem renaming run_bind->cU,run_pure->dC
open Go renaming Calls->cX
open Go.Value renaming slice->cY,int->dM,ownBlock->eR
open Go.Region renaming ready->cZ,binds->dT
open Go.IntWalk renaming i64_in->dA
open Go.Value.slice renaming injEq->dI
open Go.DataW renaming trod->dN
open Go.Builtin renaming zeroCells->dR
open List.cons renaming injEq->dU
open Array renaming getElem?_eq_none->dX,replicate->eO
open Go.Calls renaming mono->dY
open Go.Addr renaming add->eG
open Go.Oper renaming wp->eL
open Bk.Ext renaming refl->eU,trans->fI
open Bk.Nd.sits renaming fr->eW,wide->eX
open Bk.Blk renaming fr->fB,cell->fD,ext->fH,row->fN
open Bk.Fr renaming refl->fC,of_ext->fE,fr->fJ
open Bk.Nd renaming size->fF,name->fQ,kind->fS,sits->fT
open Bk.Row renaming fr->fK,ext->fL,at0->fV
open Bk.Stp renaming transfer->fM,move->gF
open Bk.rowSits renaming fr->fO,ext->fY
open Bk.StR renaming same->gA
open Bk.Ro renaming refl->gD
open Bk.FramesOk renaming move->gI
namespace Bk
open Go Go.RowKit Go.Proofs
attribute [local irreducible] Go.Calls
def Qu (xs:List Int) (zs:lV) (i:Nat) (u:Int) (h:i<xs.length):Bl (ints xs++zs) i [.int .i64 u]=ints (xs.set i u)++zs:=by
 simp only [Bl];rw [List.set_append_left _ _ (by simpa [ints] using h)];simp [ints,List.map_set]
def Cv {P:Program} {m:Nat} {l:Sl} {tab:Tab} {ty:TypeId} {w:wD} {x y:Operand} {t g i n cap:Nat} {s:Sk} {xs:List Int} {u:Int} (TT:TabOk P tab) (ht:Az tab t=some (s,1)) (hx:ev l x=some (.pointer (some ⟨g,0+i*1,none⟩))) (hy:ev l y=some (.int .i64 u))
 (ho:OwnI w 0 (.slice (some ⟨g,0,none⟩) n cap) xs) (hi:i<xs.length) :
 B5 P m l (.store t x y) ty w (I9 fun w'=>OwnI w' 0 (.slice (some ⟨g,0,none⟩) n cap) (xs.set i u)/\Fr (· = g) w w'/\w'.heap.size=w.heap.size):=by
 unfold B5;intro a dst pos after g' next Q ha _ hn;rcases ho.open with ⟨h1,-⟩|⟨g0,b,zs,h1,h2,h3,h4,h5⟩
 . cases h1
 simp only [dI,cE,Addr.mk.injEq,and_true] at h1;obtain ⟨rfl,rfl,rfl⟩:=h1;rw [eJ,Nat.mul_one] at hx;obtain ⟨w1,e1,e2,e3⟩:=Fq (P:=P) [.int .i64 u] w g i 0 (ints xs++zs) h3 (by simp [ints];omega) (by rfl);have e:(execOp a.eval ⟨dst,.store t x y,ty,pos,after,g'⟩).run P w = .ok .skip w1:=by
  have hcs:(dM .i64 u).cells.toList=[.int .i64 u]:=rfl;have hsz:(dM .i64 u).cells.size=1:=rfl;simp only [execOp,ha.ev hx,ha.ev hy,Instr.storeAt,Instr.sureAddr,cU,dC,cG,storeVar,Ck (TT _ _ _ ht),hsz,hcs];simp only [ne_eq,not_true,if_false,e1]
 unfold eL;rw [e];rw [Nat.add_zero,Qu xs zs i u hi] at e3;have hl:(xs.set i u).length=xs.length:=List.length_set;refine hn _ ⟨?_,e2.fr,e2.size⟩;have:=OwnI.mk (cQ _) e3 (by rw [hl];omega);rw [hl,h4] at this;exact this
section
variable {ρ ρ':Nat->Rl} {κ:Nat->Nat} {K:List (Int×Int)} {m sb:Nat} {st:Stp} {w w':wD} {S:nP}
def StoreAt.setCell (h:StoreAt ρ κ w sb st) {c:Nat} {ys:List Int} (x:Fr (fun k=>ρ k = .cell c\/ρ k = .items c) w w') (M:Ro ρ ρ' w) (O:Fresh ρ' w') (Y:CellAt ρ' κ w' c ys):StoreAt ρ' κ w' sb (st.all c ys):=by
 obtain ⟨V,-,⟨Z,bc,cv,tb,cs,X,h3,h4,h5,h6⟩,h7⟩:=h;have U:=X.lt;have G : ∀ {r:Rl},r≠.cell c->r≠.items c -> ∀k,(ρ k = .cell c\/ρ k = .items c)->ρ k≠r:=fun n1 n2 k F e=>by
  rcases F with h|h
  . exact n1 (by rw [<-e,h])
  . exact n2 (by rw [<-e,h])
 refine ⟨by rw [M _ U,V],O,⟨Z,bc,cv,tb,cs,X.fr x (fun hS=>G (r:=.store) AR AR _ hS V),h3.move x (fun k F=>⟨G AR AR k F,G AR AR k F⟩) M (fun _ _=>rfl),h4.move x (G AR AR) M,gI x M _ _ _ h5 (fun k F i _ _=>⟨G AR AR k F,G AR AR k F⟩) (fun _ _ _ _=>rfl),h6.move x (fun k F=>⟨G AR AR k F,G AR AR k F,G AR AR k F⟩) M⟩,fun d xs L=>?_⟩;by_cases N:d=c
 . subst N;unfold Stp.all at L;simp only [List.getElem?_set_self'] at L;cases hh:st.heap[d]? with
   | none=>rw [hh] at L;cases L
   | some q=>
    rw [hh] at L;simp only [Option.map_eq_map,Option.map_some,Function.const,cE] at L;subst L;exact Y
 . unfold Stp.all at L;simp only at L;rw [List.getElem?_set_ne (Ne.symm N)] at L;exact (h7 d xs L).move x (fun k F=>⟨G (by simp [N]) AR k F,G AR (by simp [N]) k F⟩) M rfl
def StoreAt.set2 (h:StoreAt ρ κ w sb st) {c d:Nat} (aa:c≠d) {xs ys:List Int} (x:Fr (fun k=>(ρ k = .cell c\/ρ k = .items c)\/ρ k = .cell d\/ρ k = .items d) w w') (M:Ro ρ ρ' w) (Y:Fresh ρ' w') (hc:CellAt ρ' κ w' c xs) (hd:CellAt ρ' κ w' d ys):StoreAt ρ' κ w' sb ((st.all c xs).all d ys):=by
 obtain ⟨N,-,⟨bv,bc,cv,tb,cs,O,h3,h4,h5,h6⟩,h7⟩:=h;have Z:=O.lt;have L : ∀ {r:Rl},r≠.cell c->r≠.items c->r≠.cell d->r≠.items d -> ∀k,((ρ k = .cell c\/ρ k = .items c)\/ρ k = .cell d\/ρ k = .items d)->ρ k≠r:=fun V X n3 n4 k G e=>by
  rcases G with (h|h)|h|h
  . exact V (by rw [<-e,h])
  . exact X (by rw [<-e,h])
  . exact n3 (by rw [<-e,h])
  . exact n4 (by rw [<-e,h])
 have U : ∀(e:Nat) (zs:List Int),((st.heap.set c xs).set d ys)[e]? = some zs->(e=d/\zs=ys)\/(e=c/\zs=xs)\/(e≠c/\e≠d/\st.heap[e]? = some zs):=fun e zs F=>by
  rcases Decidable.em (e=d) with rfl|N
  . left;simp only [List.getElem?_set_self'] at F;cases hh:(st.heap.set c xs)[e]? with
    | none=>rw [hh] at F;cases F
    | some q=>
     rw [hh] at F;simp only [Option.map_eq_map,Option.map_some,Function.const,cE] at F;exact ⟨rfl,F.symm⟩
  . rw [List.getElem?_set_ne (Ne.symm N)] at F;rcases Decidable.em (e=c) with rfl|O
    . right;left;simp only [List.getElem?_set_self'] at F;cases hh:st.heap[e]? with
      | none=>rw [hh] at F;cases F
      | some q=>
       rw [hh] at F;simp only [Option.map_eq_map,Option.map_some,Function.const,cE] at F;exact ⟨rfl,F.symm⟩
    . rw [List.getElem?_set_ne (Ne.symm O)] at F;exact bX (bX ⟨O,N,F⟩)
 refine ⟨by rw [M _ Z,N],Y,⟨bv,bc,cv,tb,cs,O.fr x (fun hS=>L (r:=.store) AR AR AR AR _ hS N),h3.move x (fun k G=>⟨L AR AR AR AR k G,L AR AR AR AR k G⟩) M (fun _ _=>rfl),h4.move x (L AR AR AR AR) M,gI x M _ _ _ h5 (fun k G i _ _=>⟨L AR AR AR AR k G,L AR AR AR AR k G⟩) (fun _ _ _ _=>rfl),h6.move x (fun k G=>⟨L AR AR AR AR k G,L AR AR AR AR k G,L AR AR AR AR k G⟩) M⟩,fun e zs hx=>?_⟩;rcases U e zs hx with ⟨rfl,rfl⟩|⟨rfl,rfl⟩|⟨V,X,F⟩
 . exact hd
 . exact hc
 . exact (h7 e zs F).move x (fun k G=>⟨L (by simp [V]) AR (by simp [X]) AR k G,L AR (by simp [V]) AR (by simp [X]) k G⟩) M rfl
def StoreAt.putI (h:StoreAt ρ κ w sb st) {c g n cap:Nat} {ys:List Int} (F:ρ (κ c) = .cell c) (G:ρ g = .items c) (M:Blk w (κ c) [.slice (some ⟨g,0,none⟩) n cap]) (x:Fr (· = g) w w') (N:OwnI w' 0 (.slice (some ⟨g,0,none⟩) n cap) ys):StoreAt ρ κ w' sb (st.all c ys):=
 h.setCell (x.weaken (fun k L=>bX (by rw [show k=g from L];exact G))) (gD _ _) (h.fresh.mv x) ⟨F,_,M.fr x (fun e=>by rw [show κ c=g from e,G] at F;cases F),N,fun k L=>by obtain rfl:=cD (show some g=some k from L);exact G⟩
def StoreAt.openT (h:StoreAt ρ κ w sb st) : ∃O U X V tb,Blk w sb [O,U,X,V,.pointer (some ⟨tb,0,none⟩)]/\TapeAt ρ w tb st.tin st.tout /\
 ∀(ρ':Nat->Rl) (w':wD) (ti to:List Int),Ro ρ ρ' w->Fr (BP ρ) w w'->TapeAt ρ' w' tb ti to -> ∃N,Ro ρ' N w'/\StoreAt N κ w' sb { st with tin:=ti,tout:=to }:=by
 obtain ⟨h1,hf,⟨O,U,V,tb,cs,Y,h3,h4,h5,h6⟩,h7⟩:=h;have Z:=Y.lt;refine ⟨O,U,_,V,tb,Y,h6,fun ρ' w' ti to hr x ht=>⟨fun b=>if b<w'.heap.size then ρ' b else .none,fun b M=>AG M,?_⟩⟩;have hs:=x.size;have F:Ro ρ (fun b=>if b<w'.heap.size then ρ' b else .none) w:=fun b M=>by
  simp only;rw [AG Ab];exact hr b M
 have L : ∀ {r:Rl},r≠.tape->r≠.tin->r≠.tout -> ∀k,BP ρ k->ρ k≠r:=fun n1 n2 n3 k G e=>by
  rcases G with h|h|h
  . exact n1 (by rw [<-e,h])
  . exact n2 (by rw [<-e,h])
  . exact n3 (by rw [<-e,h])
 exact ⟨(F _ Z).trans h1,fun b M=>As Ab,⟨O,U,V,tb,cs,Y.fr x (fun hS=>L (r:=.store) AR AR AR _ hS h1),h3.move x (fun k G=>⟨L AR AR AR k G,L AR AR AR k G⟩) F (fun _ _=>rfl),h4.move x (L AR AR AR) F,gI x F _ _ _ h5 (fun k G i _ _=>⟨L AR AR AR k G,L AR AR AR k G⟩) (fun _ _ _ _=>rfl),
  ht.ro (fun b M=>AG M) (cH _)⟩,fun c xs hx=>(h7 c xs hx).move x (fun k G=>⟨L AR AR AR k G,L AR AR AR k G⟩) F rfl⟩
structure PlaceAt (ρ:Nat->Rl) (κ:Nat->Nat) (w:wD) (c g n cap:Nat) (xs:List Int):Prop where
 hrc:ρ (κ c) = .cell c
 hrg:ρ g = .items c
 hb:Blk w (κ c) [.slice (some ⟨g,0,none⟩) n cap]
 ho:OwnI w 0 (.slice (some ⟨g,0,none⟩) n cap) xs
def PlaceAt.ext {c g n cap:Nat} {xs:List Int} (h:PlaceAt ρ κ w c g n cap xs) (x:Ext w w'):PlaceAt ρ κ w' c g n cap xs:=⟨h.hrc,h.hrg,h.hb.ext x,h.ho.ext x⟩
instance {c g n cap:Nat} {xs:List Int}:LfE w w' (PlaceAt ρ κ w c g n cap xs) (PlaceAt ρ κ w' c g n cap xs):=⟨fun x h=>Bk.PlaceAt.ext h x⟩
def PlaceAt.fr {c g n cap:Nat} {xs:List Int} (h:PlaceAt ρ κ w c g n cap xs) (x:Fr S w w') (F : ∀k,S k->ρ k≠.cell c/\ρ k≠.items c):PlaceAt ρ κ w' c g n cap xs:=
 ⟨h.hrc,h.hrg,h.hb.fr x (fun e=>(F _ e).1 h.hrc),h.ho.fr x (fun k G L=>by obtain rfl:=cD (show some g=some k from G);exact (F _ L).2 h.hrg)⟩
instance {c g n cap:Nat} {xs:List Int}:LfF S w w' (PlaceAt ρ κ w c g n cap xs) (∀k,S k->ρ k≠.cell c/\ρ k≠.items c) (PlaceAt ρ κ w' c g n cap xs):=⟨fun x s h=>Bk.PlaceAt.fr h x s⟩
def PlaceAt.row {c g n cap:Nat} {xs:List Int} (h:PlaceAt ρ κ w c g n cap xs) {i:Nat} (G:i<xs.length):Row w ⟨g,0+i*1,none⟩ [.int .i64 (xs.getD i 0)]:=by
 rcases h.ho.at with F|⟨b,o,F,-,L⟩
 . have:xs=[]:=List.map_eq_nil_iff.1 F;subst this;simp at G
 . simp only [cE,Addr.mk.injEq,and_true] at F;obtain ⟨rfl,rfl⟩:=F;exact IntsAt.at L G
def PlaceAt.lt {c g n cap:Nat} {xs:List Int} (h:PlaceAt ρ κ w c g n cap xs):g<w.heap.size:=(h.ho.lt (k:=g) rfl).2
def Zn (hw:st.WF K m) {c d g n cap i:Nat} (hd:d<st.heap.length) (ag:c≠d) (bn:(st.items d).length<=1000) (hi:i<(st.items c).length) (k:Int) (G:k=44\/k=45) (w:wD) (h:StoreAt ρ κ w sb st) (O:PlaceAt ρ κ w c g n cap (st.items c)) :
 Calls prog 173 #[.int .u8 k,.pointer (some ⟨g,0+i*1,none⟩),.pointer (some ⟨κ d,0,none⟩)] w (StR ρ sb (st.move k c i d).2 (st.move k c i d).1 w):=by
 have X:=eU w;have aa:=O.row hi;obtain ⟨V,vd,M,ae,N⟩:=h.cells _ _ (E6 hd);obtain ⟨ad,cd,rfl⟩:=ae.shape;have a0:=O.lt;rcases G with rfl|rfl
 . by_cases hf:1000<=(st.items d).length
   . have e:st.move 44 c i d=(5,st):=by unfold gF;rw [AG rfl,AG hf]
     rw [e];generalize (st.items d).length=dn at *;generalize κ d=db at *;clear O;refine Ac func173 ntmps173 rfl rfl ?_;refine eK ?_;refine xR ?_;exact gA Ae X
   . have e:st.move 44 c i d=(0,(st.all d (st.items d++[(st.items c).getD i 0])).put c i 0):=by unfold gF;rw [AG rfl,As hf]
     rw [e];have L:Own w 0 3 1 (.slice ad (st.items d).length cd) (st.items d).length (ints (st.items d)):=ae;have F:=fC (fun k=>ρ k = .cell d\/ρ k = .items d) w;have q1 : ∀k,(cY ad (st.items d).length cd).ownBlock=some k -> ¬k=κ d:=fun k G e=>by have:=N k G;rw [e,V] at this;cases this
     have q2 : ∀k,(cY ad (st.items d).length cd).ownBlock=some k -> ¬k=g:=fun k G e=>by have:=N k G;rw [e,O.hrg] at this;simp at this;exact ag this
     have q3 : ∀k,(cY ad (st.items d).length cd).ownBlock=some k->ρ k≠.cell c/\ρ k≠.items c:=fun k G=>by rw [N k G];exact ⟨AR,by simp;omega⟩
     have q4 : ∀k,k=κ d->ρ k≠.cell c/\ρ k≠.items c:=fun k G=>by rw [G,V];exact ⟨by simp;omega,AR⟩
     have q5 : ∀k,(cY ad (st.items d).length cd).ownBlock=some k->k<w.heap.size:=fun k G=>(L.blk G).2
     have a1:=M.lt;have HS:=bU h;clear h ae;refine Ac func173 ntmps173 rfl rfl ?_;refine eK ?_;refine Ar (fun wz=>Fr ((fun k=>(cY ad (st.items d).length cd).ownBlock=some k)) w wz) 10 (.pure 0 (.pure 1 (.pure 2 (.pure 3 (.pure 4 (.pure 5 (.pure 6 (.pure 7 (.fork 8 (.fork 9 .tail .none) .none))))))))) mixed A9 (Aa (Al (Aa Ah))) ?_;intro ba a2 _;have U:(fun wz=>Fr ((fun k=>(cY ad (st.items d).length cd).ownBlock=some k)) w wz) ba:=fE a2;simp only at U;have bh:=O;have au:=aa;have av:=M;have bb:=L;revert O X aa M L F;refine eY a2 ?_;intro bo O X aa M L F;refine ⟨U,?_⟩;refine eT ?_;refine Tq rfl (An Ad rfl rfl rfl (fun wz hz=>fD (fB av hz (fun h=>q1 _ h rfl)) rfl)) (Tq rfl Mv (Tq rfl Pn (Tq rfl (An Ad rfl rfl rfl (fun wz hz=>fV (fK au hz (fun h=>q2 _ h rfl)) rfl)) ?_)));refine Ax rfl (xS [_]) rfl ?_ aFh Aw;rintro _ ah ⟨bp,rfl,al,bq⟩;have bi:=al.blk;have a3:=al.ext;have bj:=al.pos;have bk:=al.size;revert U O X aa M L F;refine eE a3 ?_;intro U O X aa M L F;refine ⟨U,?_⟩;refine Ax rfl (FF Ad CY rfl rfl rfl rfl A9 rfl rfl rfl Ae (fN Ae) rfl rfl Ab Ab (cQ _)) rfl ?_ aFh Aw;rintro _ Z ⟨ac,⟨am,⟨rfl,⟨aq,⟨Y,⟨ar,a4⟩⟩⟩⟩⟩⟩;have bl:=Y.size;have U:=fJ U Y (fun k G=>bW G);have O:=PlaceAt.fr O Y (q3);have aa:=fK aa Y (fun h=>q2 _ h rfl);have M:=fB M Y (fun h=>q1 _ h rfl);clear L;have F:=fJ F Y (fun k G=>bW (bX (N k G)));refine ⟨U,?_⟩;refine At rfl ?_;refine eK ?_;refine eS [_] M ?_;intro ai a5 aj bm;clear M;have aq:=Own.fr aq aj (fun k G hS=>by (obtain rfl:=cD (show some ac=some k from G);rcases ar with h|h;exact q1 _ h hS;have e:ac=κ d:=hS;omega));have O:=PlaceAt.fr O aj (q4);have F:=fJ F aj (fun k G=>bW (bW (by rw [show k=κ d from G];exact V)));refine cT (Aj (C1 Mv (C1 Pn ?_)))
     have ab:Ro ρ (Us ρ ah Z (.items d)) w:=fun b hb=>VT ρ ah Z _ b Ab
     have a6:=HS.out.fresh;have h1:=HS.out.setCell (ρ':=Us ρ ah Z (.items d)) (ys:=st.items d++[(st.items c).getD i 0]) F ab (fun b hb=>NP (w:=ah) (w':=Z) (fun b hb=>a6 b Ab) Ab b Ab) ⟨by rw [ab _ a1];exact V,_,a5,(by
      have h9:Own ai 0 3 1 (.slice (some ⟨ac,0,none⟩) ((st.items d).length+1) am) ((st.items d).length+1) (ints (st.items d)++[.int .i64 ((st.items c).getD i 0)]):=by assumption
      unfold OwnI;rw [Ia,cP];exact h9),fun k G=>by
      obtain rfl:=cD (show some ac=some k from G);rcases ar with h|h
      . rw [ab _ (q5 _ h)];exact N _ h
      . exact SX ρ _ h a4⟩
     have bc:=O.hb.lt;have bd:κ c<w.heap.size:=by
      rcases cO (κ c) w.heap.size with h|h
      . exact h
      . have:=O.hrc;rw [a6 _ h] at this;cases this
     have an:PlaceAt (Us ρ ah Z (.items d)) κ ai c g n cap (st.items c):=⟨by rw [ab _ bd];exact O.hrc,by rw [ab _ a0];exact O.hrg,O.hb,O.ho⟩;have F2:=fC (· = g) ai;have ho:=O.ho;have HF:=bU F;have Hp:=bU an;have H1:=bU h1;clear F O an h1;refine Br (Cv Ad rfl rfl rfl Ae hi) (Cg ?_);rintro _ br ⟨be,⟨aw,bs⟩⟩;have bt:=aw.size;have F2:=F2.fr aw Ab;clear ho aw;refine eK ?_;refine xR ?_;have a7:=Hp.out.hrg;rw [ab _ a0] at a7;have h2:=H1.out.putI Hp.out.hrc Hp.out.hrg Hp.out.hb F2 be;exact ⟨_,κ,rfl,ab,(by unfold Stp.put;rw [CX,As (fun h=>ag h.1)];exact h2),(HF.out.weaken (T:=fun k=>LU (ρ k)) (fun k G=>by rcases G with h|h<;>rw [h]<;>trivial)).fr F2 (fun k G=>bW (by rw [show k=g from G,a7];trivial))⟩
 . rcases List.eq_nil_or_concat (st.items d) with hy|⟨ys,v,hy⟩
   . have e:st.move 45 c i d=(13,st):=by unfold gF;rw [As AY,hy];rfl
     rw [e];have hn:(st.items d).length=0:=by rw [hy];rfl
     generalize (st.items d).length=dn at *;generalize κ d=db at *;clear O;refine Ac func173 ntmps173 rfl rfl ?_;refine eK ?_;refine xR ?_;exact gA Ae X
   rw [List.concat_eq_append] at hy;have hn:(st.items d).length=ys.length+1:=by rw [hy];simp
   have ak:(st.items d).getLast? = some v:=by rw [hy];simp
   have ax:(st.items d).dropLast=ys:=by rw [hy];simp
   by_cases h0:(st.items c).getD i 0≠0
   . have e:st.move 45 c i d=(14,st):=by unfold gF;rw [As AY,ak];simp only;rw [AG h0]
     rw [e];generalize (st.items d).length=dn at *;generalize (st.items c).getD i 0=v0 at *;generalize κ d=db at *;clear O;refine Ac func173 ntmps173 rfl rfl ?_;refine eK ?_;refine xR ?_;exact gA Ae X
   . have e:st.move 45 c i d=(0,(st.put c i v).all d ys):=by unfold gF;rw [As AY,ak];simp only;rw [As h0,ax]
     rw [e];have L:Own w 0 3 1 (.slice ad (st.items d).length cd) (st.items d).length (ints (st.items d)):=ae;have bc:=L.le;obtain ⟨gd,go,rfl,a8⟩:=ae.at.get (by intro e;rw [e] at hn;simp at hn);have r2:=IntsAt.at a8 (i:=(((st.items d).length:Int)-1).toNat) Ab;rw [show (st.items d).getD (((st.items d).length:Int)-1).toNat 0=v by rw [hn,show (((ys.length+1:Nat):Int)-1).toNat=ys.length by omega,hy];simp] at r2;have an:((st.items d).length:Int)-1=(ys.length:Int):=by omega
     have bf:ys.length<=cd:=by omega
     rw [hn,hy,Ia] at L;have L:=L.cut (m:=ys.length) (by simp [ints]) Ab;have q1 : ∀k,(cY (some ⟨gd,go,none⟩) ys.length cd).ownBlock=some k -> ¬k=κ d:=fun k G e=>by have:=N k G;rw [e,V] at this;cases this
     have q2 : ∀k,(cY (some ⟨gd,go,none⟩) ys.length cd).ownBlock=some k -> ¬k=g:=fun k G e=>by have:=N k G;rw [e,O.hrg] at this;simp at this;exact ag this
     have q3 : ¬ κ d=g:=fun e=>by rw [e,O.hrg] at V;cases V
     have ho:=O.ho;have Hp:=bU O;have HS:=bU h;have Hb:=bU M;have Hi:=bU N;have F:=fC (fun k=>k=g\/k=κ d) w;clear h ae O a8;refine Ac func173 ntmps173 rfl rfl ?_;refine eK ?_;refine C1 (Bq rfl rfl (dA _ Ab)) ?_;refine eK ?_;refine Br (Cv Ad rfl rfl rfl Ae hi) (Cg ?_);rintro _ bu ⟨ay,⟨ao,bv⟩⟩;have bw:=ao.size;have M:=fB M ao (q3);have L:=Own.fr L ao (q2);clear ho;have F:=F.fr ao Ab;refine eK ?_;refine C1 (Bq rfl rfl (dA _ Ab)) (C1 (Ei Ad rfl rfl rfl rfl an bf) ?_);refine eK ?_;refine eS [_] M ?_;intro bx a9 az bz;clear M;have ay:=OwnI.fr ay az (fun k G=>by simp only [Go.Value.ownBlock,cE] at G;omega);have L:=Own.fr L az (q1);have F:=fJ F az (fun k G=>bW (bX G));refine eK ?_;refine xR ?_;have ap:=Hp.out.hrg;have af:=Hp.out.hrc;have bg:=Hp.out.hb.fr F (fun e=>by
      rcases e with e|e
      . rw [e,ap] at af;cases af
      . rw [e,V] at af;simp at af;exact ag af.symm)
     exact ⟨ρ,κ,rfl,gD _ _,HS.out.set2 ag (F.weaken (fun k G=>by rcases G with rfl|rfl;exact bW (bX ap);exact bX (bW V))) (gD _ _) (HS.out.fresh.mv F) ⟨af,_,bg,ay,fun k G=>by obtain rfl:=cD (show some g=some k from G);exact ap⟩ ⟨V,_,a9,L,N⟩,F.weaken (fun k G=>by rcases G with rfl|rfl;rw [ap];trivial;rw [V];trivial)⟩
def JS {c g n cap i:Nat} {v:Int} {Z:Nat->Rl} {w1 M:wD} {ti to:List Int} (G:PlaceAt ρ κ w c g n cap (st.items c)) (hr:Ro ρ Z w) (h1 : ∃F,Ro Z F w1/\StoreAt F κ w1 sb { st with tin:=ti,tout:=to }) (N:Fr (BP ρ) w w1) (x2:Fr (· = g) w1 M) (ho:OwnI M 0 (.slice (some ⟨g,0,none⟩) n cap) ((st.items c).set i v)) :
 StR ρ sb { st.put c i v with tin:=ti,tout:=to } 0 w (.returned (.int .i64 0)) M:=by
 obtain ⟨F,O,h2⟩:=h1;have hs:=N.size;have L:=hr.trans O hs;have U:=G.lt;have V:=G.hb.lt;have X:=G.hb.fr N (fun h=>by rcases h with h|h|h<;>rw [G.hrc] at h<;>cases h);have h3:=h2.putI (c:=c) (g:=g) (n:=n) (cap:=cap) (by rw [L _ V];exact G.hrc) (by rw [L _ U];exact G.hrg) X x2 ho;refine ⟨F,κ,rfl,L,h3,(N.weaken (T:=fun k=>LU (ρ k)) (fun k Y=>by rcases Y with h|h|h<;>rw [h]<;>trivial)).fr x2 (fun k Y=>bW (by rw [show k=g from Y,G.hrg];trivial))⟩
def GN {r:Int} {L:Nat->Rl} {w1:wD} (N:Ro ρ L w) (O : ∃F,Ro L F w1/\StoreAt F κ w1 sb st) (M:Fr (BP ρ) w w1):StR ρ sb st r w (.returned (.int .i64 r)) w1:=by
 obtain ⟨F,G,U⟩:=O;exact ⟨F,κ,rfl,N.trans G M.size,U,M.weaken (fun k V=>by rcases V with h|h|h<;>rw [h]<;>trivial)⟩
def VW {c g n cap i:Nat} (hi:i<(st.items c).length) (w:wD) (h:StoreAt ρ κ w sb st) (Z:PlaceAt ρ κ w c g n cap (st.items c)) :
 Calls prog 174 #[.pointer (some ⟨sb,0,none⟩),.int .u8 46,.pointer (some ⟨g,0+i*1,none⟩)] w (StR ρ sb (st.transfer 46 c i).2 (st.transfer 46 c i).1 w):=by
 obtain ⟨bv,bc,ap,cv,tb,U,X,aa⟩:=h.openT;have G:=Z.row hi;have ab:=X.li;have aq:=X.lo;have ag:=h.role;have V:=bU aa;have Hp:=bU Z;have F:=fC (BP ρ) w;have q1 : ¬BP ρ g:=fun h=>by rcases h with h|h|h<;>rw [Z.hrg] at h<;>cases h
 have q2 : ¬BP ρ sb:=fun h=>by rcases h with h|h|h<;>rw [ag] at h<;>cases h
 have Y:=Z.ho;have q3 : ∀k,(cY (some ⟨g,0,none⟩) n cap).ownBlock=some k -> ¬BP ρ k:=fun k O=>by obtain rfl:=cD (show some g=some k from O);exact q1
 have ah:=Hp.out.lt;have ai:=U.lt;clear aa Z h;cases hti:st.tin with
 | nil=>
  have e:st.transfer 46 c i=(17,st):=by unfold fM;rw [AG rfl,hti]
  rw [e];rw [hti] at X;have hR:=bU (fun w1 h=>Vz ρ tb st.tout w1 h);refine Ac func174 ntmps174 rfl rfl ?_;refine eK ?_;refine C1 (A2 Ad rfl rfl) ?_;refine eK ?_;refine eQ rfl (hR.out _ Ae) ?_;rintro _ w5 ⟨ar,⟨⟨⟩,⟨h2,⟨h3,f4⟩⟩⟩⟩;have z6:=f4.size;have U:=fB U f4 (q2);clear X;have G:=fK G f4 (q1);have F:=fJ F f4 (fun k O=>bW O);have Y:=OwnI.fr Y f4 (q3);refine eK ?_;refine xR ?_;exact GN h2 (by
   have h9:=V.out _ _ _ _ h2 F h3;rwa [show ({ st with tin:=[],tout:=st.tout }:Stp)=st by rw [<-hti]] at h9) F
 | cons v r=>
  rw [hti] at X ab;simp only [cF] at ab;have e:st.transfer 46 c i=if (st.items c).getD i 0≠0 then (14,st) else (0,{ st.put c i v with tin:=r }):=by unfold fM;rw [AG rfl,hti]
  rw [e];have hR:=bU (fun w1 h=>XA ρ tb v r st.tout w1 h);have hU:=bU (fun ρ1 w1 h=>ND ρ1 tb v r st.tout w1 h Ab);generalize au:(st.items c).getD i 0=v0 at *;refine Ac func174 ntmps174 rfl rfl ?_
  focus
   refine eK ?_;refine C1 (A2 Ad rfl rfl) ?_;refine eK ?_;refine eQ rfl (hR.out _ Ae) ?_;rintro _ aj ⟨al,⟨⟨⟩,⟨L,⟨ac,N⟩⟩⟩⟩;have av:=N.size;have U:=fB U N (q2);have F:=fJ F N (fun k O=>bW O);have Y:=OwnI.fr Y N (q3);clear X;have G:=fK G N (q1);refine eK ?_;refine BU rfl (fun ak=>?_) (fun ak=>?_);refine eK ?_;refine eQ rfl (hU.out _ _ Ae) ?_;rintro _ am ⟨an,⟨⟨⟩,⟨ad,⟨ae,M⟩⟩⟩⟩;have ao:=M.size;have U:=fB U M (fun h=>q2 (by unfold BP at h ⊢;rwa [L _ ai] at h));have F:=fJ F M (fun k O=>by (rcases cO k w.heap.size with h|h;left;unfold BP at O ⊢;rw [L k h] at O;exact O;exact bX h));clear Y;have G:=fK G M (fun h=>q1 (by unfold BP at h ⊢;rwa [L _ ah] at h));refine cT (Aj (C1 Pa (Ak (Af (Ag (Ai ?_))))));rotate_left;refine Am (Af (Ag (Ai ?_)));rotate_left
  . have h9:=V.out _ _ _ _ (L.trans ad Ab) F ae;rw [show ({ st with tin:=v::r,tout:=st.tout }:Stp)=st by rw [<-hti]] at h9;have H9:=bU h9;rw [AG Ae];refine eK ?_;refine xR ?_;exact GN (L.trans ad Ab) H9.out F
  . have H9:=bU (V.out _ _ _ _ L F ac);have F2:=fC (· = g) aj;have F1:=bU F;clear F;rw [As (fun h=>h Ae)];refine eK ?_;refine Br (Cv Ad rfl rfl rfl Ae hi) (Cg ?_);rintro _ aw ⟨ax,⟨af,ay⟩⟩;have az:=af.size;clear ac U Y G;have F2:=F2.fr af Ab;refine eK ?_;refine xR ?_;exact JS Hp.out L H9.out F1.out F2 Ae
def VX {c g n cap i:Nat} (hi:i<(st.items c).length) (w:wD) (h:StoreAt ρ κ w sb st) (hp:PlaceAt ρ κ w c g n cap (st.items c)) :
 Calls prog 174 #[.pointer (some ⟨sb,0,none⟩),.int .u8 49,.pointer (some ⟨g,0+i*1,none⟩)] w (StR ρ sb (st.transfer 49 c i).2 (st.transfer 49 c i).1 w):=by
 obtain ⟨bv,bc,ap,cv,tb,V,Y,aa⟩:=h.openT;have L:=hp.row hi;have aq:=Y.li;have ab:=Y.lo;have ag:=h.role;have X:=bU aa;have Hp:=bU hp;have F:=fC (BP ρ) w;have q1 : ¬BP ρ g:=fun h=>by rcases h with h|h|h<;>rw [hp.hrg] at h<;>cases h
 have q2 : ¬BP ρ sb:=fun h=>by rcases h with h|h|h<;>rw [ag] at h<;>cases h
 have Z:=hp.ho;have q3 : ∀k,(cY (some ⟨g,0,none⟩) n cap).ownBlock=some k -> ¬BP ρ k:=fun k U=>by obtain rfl:=cD (show some g=some k from U);exact q1
 have ah:=Hp.out.lt;have ai:=V.lt;clear aa hp h;rcases List.eq_nil_or_concat st.tout with G|⟨r,v,G⟩
 . have e:st.transfer 49 c i=(17,st):=by unfold fM;rw [As AY,As AY,As AY,G];rfl
   rw [e];rw [G] at Y;have hR:=bU (fun w1 h=>PZ ρ tb st.tin w1 h);refine Ac func174 ntmps174 rfl rfl ?_;refine eK ?_;refine C1 (A2 Ad rfl rfl) ?_;refine eK ?_;refine eQ rfl (hR.out _ Ae) ?_;rintro _ w5 ⟨ar,⟨⟨⟩,⟨h2,⟨h3,f4⟩⟩⟩⟩;have z6:=f4.size;have V:=fB V f4 (q2);clear Y;have L:=fK L f4 (q1);have F:=fJ F f4 (fun k U=>bW U);have Z:=OwnI.fr Z f4 (q3);refine eK ?_;refine xR ?_;exact GN h2 (by
    have h9:=X.out _ _ _ _ h2 F h3;rwa [show ({ st with tin:=st.tin,tout:=[] }:Stp)=st by rw [<-G]] at h9) F
 . rw [List.concat_eq_append] at G;rw [G] at Y ab;simp only [cP,List.length_singleton] at ab;have e:st.transfer 49 c i=if (st.items c).getD i 0≠0 then (14,st) else (0,{ st.put c i v with tout:=r }):=by unfold fM;rw [As AY,As AY,As AY,show st.tout.getLast? = some v by rw [G];simp,show st.tout.dropLast=r by rw [G];simp]
   rw [e];have hR:=bU (fun w1 h=>RJ ρ tb v st.tin r w1 h);have hU:=bU (fun ρ1 w1 h=>P0 ρ1 tb v st.tin r w1 h Ab);generalize au:(st.items c).getD i 0=v0 at *;refine Ac func174 ntmps174 rfl rfl ?_
   focus
    refine eK ?_;refine C1 (A2 Ad rfl rfl) ?_;refine eK ?_;refine eQ rfl (hR.out _ Ae) ?_;rintro _ aj ⟨al,⟨⟨⟩,⟨M,⟨ac,O⟩⟩⟩⟩;have av:=O.size;have V:=fB V O (q2);have F:=fJ F O (fun k U=>bW U);have Z:=OwnI.fr Z O (q3);clear Y;have L:=fK L O (q1);refine eK ?_;refine BU rfl (fun ak=>?_) (fun ak=>?_);refine eK ?_;refine eQ rfl (hU.out _ _ Ae) ?_;rintro _ am ⟨an,⟨⟨⟩,⟨ad,⟨ae,N⟩⟩⟩⟩;have ao:=N.size;have V:=fB V N (fun h=>q2 (by unfold BP at h ⊢;rwa [M _ ai] at h));have F:=fJ F N (fun k U=>by (rcases cO k w.heap.size with h|h;left;unfold BP at U ⊢;rw [M k h] at U;exact U;exact bX h));clear Z;have L:=fK L N (fun h=>q1 (by unfold BP at h ⊢;rwa [M _ ah] at h));refine cT (Aj (C1 Pa (Ak (Af (Ag (Ai ?_))))));rotate_left;refine Am (Af (Ag (Ai ?_)));rotate_left
   . have h9:=X.out _ _ _ _ (M.trans ad Ab) F ae;rw [show ({ st with tin:=st.tin,tout:=r++[v] }:Stp)=st by rw [<-G]] at h9;have H9:=bU h9;rw [AG Ae];refine eK ?_;refine xR ?_;exact GN (M.trans ad Ab) H9.out F
   . have H9:=bU (X.out _ _ _ _ M F ac);have F2:=fC (· = g) aj;have F1:=bU F;clear F;rw [As (fun h=>h Ae)];refine eK ?_;refine Br (Cv Ad rfl rfl rfl Ae hi) (Cg ?_);rintro _ aw ⟨ax,⟨af,ay⟩⟩;have az:=af.size;clear ac V Z L;have F2:=F2.fr af Ab;refine eK ?_;refine xR ?_;exact JS Hp.out M H9.out F1.out F2 Ae
def VY {c g n cap i:Nat} (hi:i<(st.items c).length) (w:wD) (h:StoreAt ρ κ w sb st) (Y:PlaceAt ρ κ w c g n cap (st.items c)) :
 Calls prog 174 #[.pointer (some ⟨sb,0,none⟩),.int .u8 47,.pointer (some ⟨g,0+i*1,none⟩)] w (StR ρ sb (st.transfer 47 c i).2 (st.transfer 47 c i).1 w):=by
 obtain ⟨bv,bc,ao,cv,tb,M,U,Z⟩:=h.openT;have G:=Y.row hi;have ap:=U.li;have aq:=U.lo;have aj:=h.role;have aa:=bU Z;have Hp:=bU Y;have F:=fC (BP ρ) w;have q1 : ¬BP ρ g:=fun h=>by rcases h with h|h|h<;>rw [Y.hrg] at h<;>cases h
 have q2 : ¬BP ρ sb:=fun h=>by rcases h with h|h|h<;>rw [aj] at h<;>cases h
 have N:=Y.ho;have q3 : ∀k,(cY (some ⟨g,0,none⟩) n cap).ownBlock=some k -> ¬BP ρ k:=fun k hk=>by obtain rfl:=cD (show some g=some k from hk);exact q1
 have ar:=Hp.out.lt;have au:=M.lt;clear Z Y h;by_cases hf:4096<=st.tin.length
 . have e:st.transfer 47 c i=(5,st):=by unfold fM;rw [As AY,AG rfl,AG hf]
   rw [e];have hR:=bU (fun w1 h=>RI ρ tb ((st.items c).getD i 0) st.tin st.tout w1 h Ab);generalize (st.items c).getD i 0=v0 at *;refine Ac func174 ntmps174 rfl rfl ?_;refine eK ?_;refine C1 (A2 Ad rfl rfl) ?_;refine eK ?_;refine Ar (fun V=>Ext w V) 7 (.pure 0 (.pure 1 (.pure 2 (.pure 3 (.pure 4 (.pure 5 (.pure 6 .tail))))))) mixed A9 (Al (Aa Ah)) ?_;intro w1 x2 _;have ab:(fun V=>Ext w V) w1:=x2;simp only at ab;have ac:=M;have ad:=U;have ae:=N;have L:=G;revert M U F N G;refine eY x2 ?_;intro z4 M U F N G;refine ⟨ab,?_⟩;refine eT ?_;refine Tq rfl (An Ad rfl rfl rfl (fun V hz=>fV (fL L hz) rfl)) ?_;refine At rfl (eQ rfl (hR.out _ Ae) ?_);rintro _ w9 ⟨av,⟨⟨⟩,⟨h6,⟨h7,f8⟩⟩⟩⟩;have aw:=f8.size;have M:=fB M f8 (q2);clear U;have F:=fJ F f8 (fun k hk=>bW hk);have N:=OwnI.fr N f8 (q3);have G:=fK G f8 (q1);refine eK ?_;refine xR ?_;exact GN (Ro.low h6 Ab) (aa.out _ _ _ _ (Ro.low h6 Ab) F h7) F
 . have e:st.transfer 47 c i=(0,{ st.put c i 0 with tin:=(st.items c).getD i 0::st.tin }):=by unfold fM;rw [As AY,AG rfl,As hf]
   rw [e];have hR:=bU (fun w1 h=>ND ρ tb ((st.items c).getD i 0) st.tin st.tout w1 h Ab);generalize (st.items c).getD i 0=v0 at *;refine Ac func174 ntmps174 rfl rfl ?_;refine eK ?_;refine C1 (A2 Ad rfl rfl) ?_;refine eK ?_;refine Ar (fun V=>Ext w V) 7 (.pure 0 (.pure 1 (.pure 2 (.pure 3 (.pure 4 (.pure 5 (.pure 6 .tail))))))) mixed A9 (Al (Aa Ah)) ?_;intro ak af _;have X:(fun V=>Ext w V) ak:=af;simp only at X;have ac:=M;have ad:=U;have ae:=N;have L:=G;revert M U F N G;refine eY af ?_;intro ax M U F N G;refine ⟨X,?_⟩;refine eT ?_;refine Tq rfl (An Ad rfl rfl rfl (fun V hz=>fV (fL L hz) rfl)) ?_;refine At rfl (eQ rfl (hR.out _ Ae) ?_);rintro _ al ⟨am,⟨⟨⟩,⟨ag,⟨ah,O⟩⟩⟩⟩;have an:=O.size;have M:=fB M O (q2);clear U;have F:=fJ F O (fun k hk=>bW hk);have N:=OwnI.fr N O (q3);have G:=fK G O (q1);refine C1 Pa (Ak (Af (Ag (Ai ?_))));have H9:=bU (aa.out _ _ _ _ (Ro.low ag Ab) F ah);have F2:=fC (· = g) al;have F1:=bU F;clear F;refine eK ?_;refine Br (Cv Ad rfl rfl rfl Ae hi) (Cg ?_);rintro _ ay ⟨az,⟨ai,a0⟩⟩;have a1:=ai.size;clear ah M N G;have F2:=F2.fr ai Ab;refine eK ?_;refine xR ?_;exact JS Hp.out (Ro.low ag Ab) H9.out F1.out F2 Ae
def VZ {c g n cap i:Nat} (hi:i<(st.items c).length) (w:wD) (h:StoreAt ρ κ w sb st) (Y:PlaceAt ρ κ w c g n cap (st.items c)) :
 Calls prog 174 #[.pointer (some ⟨sb,0,none⟩),.int .u8 48,.pointer (some ⟨g,0+i*1,none⟩)] w (StR ρ sb (st.transfer 48 c i).2 (st.transfer 48 c i).1 w):=by
 obtain ⟨bv,bc,ao,cv,tb,M,U,Z⟩:=h.openT;have G:=Y.row hi;have ap:=U.li;have aq:=U.lo;have aj:=h.role;have aa:=bU Z;have Hp:=bU Y;have F:=fC (BP ρ) w;have q1 : ¬BP ρ g:=fun h=>by rcases h with h|h|h<;>rw [Y.hrg] at h<;>cases h
 have q2 : ¬BP ρ sb:=fun h=>by rcases h with h|h|h<;>rw [aj] at h<;>cases h
 have N:=Y.ho;have q3 : ∀k,(cY (some ⟨g,0,none⟩) n cap).ownBlock=some k -> ¬BP ρ k:=fun k hk=>by obtain rfl:=cD (show some g=some k from hk);exact q1
 have ar:=Hp.out.lt;have au:=M.lt;clear Z Y h;by_cases hf:4096<=st.tout.length
 . have e:st.transfer 48 c i=(5,st):=by unfold fM;rw [As AY,As AY,AG rfl,AG hf]
   rw [e];have hR:=bU (fun w1 h=>Ub ρ tb ((st.items c).getD i 0) st.tin st.tout w1 h Ab);generalize (st.items c).getD i 0=v0 at *;refine Ac func174 ntmps174 rfl rfl ?_;refine eK ?_;refine C1 (A2 Ad rfl rfl) ?_;refine eK ?_;refine Ar (fun V=>Ext w V) 7 (.pure 0 (.pure 1 (.pure 2 (.pure 3 (.pure 4 (.pure 5 (.pure 6 .tail))))))) mixed A9 (Al (Aa Ah)) ?_;intro w1 x2 _;have ab:(fun V=>Ext w V) w1:=x2;simp only at ab;have ac:=M;have ad:=U;have ae:=N;have L:=G;revert M U F N G;refine eY x2 ?_;intro z4 M U F N G;refine ⟨ab,?_⟩;refine eT ?_;refine Tq rfl (An Ad rfl rfl rfl (fun V hz=>fV (fL L hz) rfl)) ?_;refine At rfl (eQ rfl (hR.out _ Ae) ?_);rintro _ w9 ⟨av,⟨⟨⟩,⟨h6,⟨h7,f8⟩⟩⟩⟩;have aw:=f8.size;have M:=fB M f8 (q2);clear U;have F:=fJ F f8 (fun k hk=>bW hk);have N:=OwnI.fr N f8 (q3);have G:=fK G f8 (q1);refine eK ?_;refine xR ?_;exact GN (Ro.low h6 Ab) (aa.out _ _ _ _ (Ro.low h6 Ab) F h7) F
 . have e:st.transfer 48 c i=(0,{ st.put c i 0 with tout:=st.tout++[(st.items c).getD i 0] }):=by unfold fM;rw [As AY,As AY,AG rfl,As hf]
   rw [e];have hR:=bU (fun w1 h=>P0 ρ tb ((st.items c).getD i 0) st.tin st.tout w1 h Ab);generalize (st.items c).getD i 0=v0 at *;refine Ac func174 ntmps174 rfl rfl ?_;refine eK ?_;refine C1 (A2 Ad rfl rfl) ?_;refine eK ?_;refine Ar (fun V=>Ext w V) 7 (.pure 0 (.pure 1 (.pure 2 (.pure 3 (.pure 4 (.pure 5 (.pure 6 .tail))))))) mixed A9 (Al (Aa Ah)) ?_;intro ak af _;have X:(fun V=>Ext w V) ak:=af;simp only at X;have ac:=M;have ad:=U;have ae:=N;have L:=G;revert M U F N G;refine eY af ?_;intro ax M U F N G;refine ⟨X,?_⟩;refine eT ?_;refine Tq rfl (An Ad rfl rfl rfl (fun V hz=>fV (fL L hz) rfl)) ?_;refine At rfl (eQ rfl (hR.out _ Ae) ?_);rintro _ al ⟨am,⟨⟨⟩,⟨ag,⟨ah,O⟩⟩⟩⟩;have an:=O.size;have M:=fB M O (q2);clear U;have F:=fJ F O (fun k hk=>bW hk);have N:=OwnI.fr N O (q3);have G:=fK G O (q1);refine C1 Pa (Ak (Af (Ag (Ai ?_))));have H9:=bU (aa.out _ _ _ _ (Ro.low ag Ab) F ah);have F2:=fC (· = g) al;have F1:=bU F;clear F;refine eK ?_;refine Br (Cv Ad rfl rfl rfl Ae hi) (Cg ?_);rintro _ ay ⟨az,⟨ai,a0⟩⟩;have a1:=ai.size;clear ah M N G;have F2:=F2.fr ai Ab;refine eK ?_;refine xR ?_;exact JS Hp.out (Ro.low ag Ab) H9.out F1.out F2 Ae
end
def VD.ok (v:VD):Bool:=CF v.name&&if v.kind=1\/v.kind=3 then v.len==0 else if v.kind=2 then decide (1<=v.len)&&decide (v.len<=16) else false
def Gn (l:List VD):Bool:=l.all VD.ok
mutual
def Nd.lim:Nd->Int->Int->Bool×Int
 | .mk _ _ _ l,d,m=>if d=0\/m=0 then (false,m) else Dh l (d-1) (m-1)
def Dh:List Nd->Int->Int->Bool×Int
 | [],_,m=>(true,m)
 | t::r,d,m=>if (t.lim d m).1 then Dh r d (t.lim d m).2 else (false,(t.lim d m).2)
end
def DZ (t:Nd):Bool:=(t.lim 80 2000).1&&t.isBlock
def PD.ok (p:PD):Bool:=CF p.name&&decide (p.params.length<=8)&&Gn p.params&&DZ p.body
def PG.ok (g:PG):Bool:=decide (g.vars.length<=32)&&decide (g.procs.length<=64)&&Gn g.vars&&g.procs.all PD.ok&&DZ g.main
end Bk
namespace Bk
open Go Go.RowKit Go.Proofs
structure VD.wf (v:VD):Prop where
 name:v.name.length<=9223372036854775807
 k0:0<=v.kind
 k1:v.kind<=255
 l0 : -9223372036854775808<=v.len
 l1:v.len<=9223372036854775807
def Qv {l:List VD} {j:Nat} (h:j<l.length) (F:l[j].ok=false):Gn l=false:=by
 unfold Gn;rw [List.all_eq_false];exact ⟨l[j],cL h,by simp [F]⟩
def R2 {l:List VD} (h : ∀j (L:j<l.length),l[j].ok=true):Gn l=true:=by
 unfold Gn;rw [List.all_eq_true];intro x F;obtain ⟨i,G,rfl⟩:=List.mem_iff_getElem.1 F;exact h i G
def Mh (l:List VD) (S:nP) (a:oA) (c:Nat) (w:wD) (hl:l.length<=9223372036854775807) (aa : ∀v∈l,v.wf) (hs:VDs S w l a) :
 Calls prog 23 #[.slice a l.length c] w fun e w'=>e = .returned (.bool (Gn l))/\Ext w w':=by
 refine Ac func23 ntmps23 rfl rfl ?_;refine eK ?_;refine A1 (ι:=Nat) (fun j=>[(7,.int .i64 j),(6,.int .i64 l.length),(5,.slice a l.length c)]) (fun j w'=>Ext w w'/\j<=l.length /\ ∀i (N:i<l.length),i<j->l[i].ok=true) (fun j=>l.length-j) 0 sB ⟨eU _,Ab,Ab⟩ ?_;rintro j w1 ⟨x1,hj,O⟩;have Z:=bU O;clear O;by_cases V:j<l.length
 . obtain ⟨kb,ko,rfl,-,U⟩:=Arr.get (hs.ext x1) Ab;have rx:Row w1 ⟨kb,ko+j*3,none⟩ l[j].cells:=U j l[j] (bT V);have wf:=aa l[j] (cL V);have ab:=wf.name;have HF:l[j].ok=false->Gn l=false:=Qv V;have X:=bU HF;clear HF U;generalize hv:l[j]=v at *;have HE:=bU hv;clear hv;refine eK ?_;refine Fj CY rfl rfl ?_;intro b2 w2 G;refine Gg Ad rfl rfl rfl rfl rfl rfl (G) rfl ?_;clear G w2;intro w2 G;have h2:=G.blk;have x2:=G.ext;refine eK ?_;refine cC rfl (I8 v.name _ ab) ?_;rintro _ w3 ⟨⟨⟩,x3⟩;have F:Ext w w3:=(by refine fI ?_ Ae;refine fI ?_ Ae;assumption);have h3:=h2.ext x3;cases hnm:CF v.name
   . try rw [hnm]
     refine C1 Pt (Ak (Ag (EF rfl (by rfl) ?_)));refine eK ?_;refine AM results23 rfl ?_;exact ⟨AV (X.out (by simp [VD.ok,hnm])).symm,F⟩
   try rw [hnm]
   by_cases L:v.kind=1\/v.kind=3
   . by_cases h0:v.len=0
     . have h:v.ok=true:=by simp [VD.ok,hnm,L,h0]
       rcases L with L|L
       . refine C1 Pt (Ak (Ag (FK rfl (by rfl) (Am (Ag (Ai (Aj (C1 Pf (C1 Hu (Ak (Ag ?_)))))))))));refine Av (Ai (Ai (Aj (C1 V1 (C1 Pa (Ak (Ag (Ph (Am (Ag (Ph ?_)))))))))));refine Ai (Aj (C1 Pf (C1 Hu (C1 V2 (Ak (Ag (Ds (Am (Af (Af (Ag ?_)))))))))));refine Aj (C1 V7 (C1 Mv (Ak ?_)));refine AI (j+1) sB ⟨F,Ab,fun i N Y=>?_⟩ Ab;by_cases e:i=j
         . subst e;exact HE.out▸h
         . exact Z.out i N Ab
       . refine C1 Pt (Ak (Ag (FK rfl (by rfl) (Am (Ag (Ai (Aj (C1 Pf (C1 Hu (Ak (Ag ?_)))))))))));refine Av (Ai (Ai (Aj (C1 V1 (C1 Pa (Ak (Ag (Ds (Aj (C1 V1 (C1 Pa ?_)))))))))));refine Ak (Ag (Ph (Ai (Aj (C1 Pf (C1 Hu (C1 V2 (Ak (Ag (Ds (Am ?_)))))))))));refine Af (Af (Ag (Aj (C1 V7 (C1 Mv (Ak ?_))))));refine AI (j+1) sB ⟨F,Ab,fun i N Y=>?_⟩ Ab;by_cases e:i=j
         . subst e;exact HE.out▸h
         . exact Z.out i N Ab
     . have h:v.ok=false:=by simp [VD.ok,hnm,L,h0]
       rcases L with L|L
       . refine C1 Pt (Ak (Ag (FK rfl (by rfl) ?_)));refine eK ?_;refine AM results23 rfl ?_;exact ⟨AV (X.out h).symm,F⟩
       . refine C1 Pt (Ak (Ag (FK rfl (by rfl) ?_)));refine eK ?_;refine AM results23 rfl ?_;exact ⟨AV (X.out h).symm,F⟩
   . have ac:v.kind≠1:=fun e=>L (bW e)
     have ad:v.kind≠3:=fun e=>L (bX e)
     by_cases M:v.kind=2
     . by_cases ae:v.len<1
       . have h:v.ok=false:=by simp [VD.ok,hnm,M];omega
         refine C1 Pt (Ak (Ag (FK rfl (by rfl) (Am (Ag (Ai (Aj (C1 Pf (C1 Hu (Ak (Ag ?_)))))))))));refine Av (Ai (Ai (Aj (C1 V1 (C1 Pa (Ak (Ag (U4 (Aj (C1 V1 (C1 Pa ?_)))))))))));refine Ak (Ag (U4 (Ai (Aj (C1 V1 (C1 Pa (Ak (Ag (Ph (Ai (Aj ?_)))))))))));refine C1 Pf (C1 Hu (C1 V3 (C1 Mv (AZ rfl rfl rfl Ae rfl (AZ rfl rfl rfl Ae rfl (AZ rfl rfl rfl Ae rfl (C1 Rw (Ak (Ag (EF rfl (by rfl) ?_))))))))));refine eK ?_;refine AM results23 rfl ?_;exact ⟨AV (X.out h).symm,F⟩
       . by_cases af:16<v.len
         . have h:v.ok=false:=by simp [VD.ok,hnm,M];omega
           refine C1 Pt (Ak (Ag (FK rfl (by rfl) (Am (Ag (Ai (Aj (C1 Pf (C1 Hu (Ak (Ag ?_)))))))))));refine Av (Ai (Ai (Aj (C1 V1 (C1 Pa (Ak (Ag (U4 (Aj (C1 V1 (C1 Pa ?_)))))))))));refine Ak (Ag (U4 (Ai (Aj (C1 V1 (C1 Pa (Ak (Ag (Ph (Ai (Aj ?_)))))))))));refine C1 Pf (C1 Hu (C1 V3 (C1 Mv (AP rfl rfl rfl Ae (C1 Pf (AP rfl rfl rfl Ae (C1 Hu (AP rfl rfl rfl Ae ?_))))))));refine eK ?_;refine AM results23 rfl ?_;exact ⟨AV (X.out h).symm,F⟩
         . have h:v.ok=true:=by simp [VD.ok,hnm,M];omega
           refine C1 Pt (Ak (Ag (FK rfl (by rfl) (Am (Ag (Ai (Aj (C1 Pf (C1 Hu (Ak (Ag ?_)))))))))));refine Av (Ai (Ai (Aj (C1 V1 (C1 Pa (Ak (Ag (U4 (Aj (C1 V1 (C1 Pa ?_)))))))))));refine Ak (Ag (U4 (Ai (Aj (C1 V1 (C1 Pa (Ak (Ag (Ph (Ai (Aj ?_)))))))))));refine C1 Pf (C1 Hu (C1 V3 (C1 Mv (AP rfl rfl rfl Ae (C1 Pf (AP rfl rfl rfl Ae (C1 Hu (AP rfl rfl rfl Ae (C1 V5 (C1 Rk (Ak ?_)))))))))));refine Ag (U4 (Am (Af (Af (Ag (Aj (C1 V7 (C1 Mv (Ak ?_)))))))));refine AI (j+1) sB ⟨F,Ab,fun i N Y=>?_⟩ Ab;by_cases e:i=j
           . subst e;exact HE.out▸h
           . exact Z.out i N Ab
     . have h:v.ok=false:=by simp [VD.ok,hnm,ac,M,ad]
       refine C1 Pt (Ak (Ag (FK rfl (by rfl) ?_)));refine eK ?_;refine AM results23 rfl ?_;exact ⟨AV (X.out h).symm,F⟩
 . refine eK ?_;refine AM results23 rfl ?_;exact ⟨AV (R2 (fun i N=>Z.out i N Ab)).symm,x1⟩
mutual
def OO : ∀(t:Nd) (d m:Int),0<=m->0<=(t.lim d m).2/\(t.lim d m).2<=m
 | .mk _ _ s l,d,m,hm=>by
  simp only [Nd.lim];split
  . exact ⟨hm,Int.le_refl _⟩
  . have:=NQ l (d-1) (m-1) Ab;omega
def NQ : ∀(l:List Nd) (d m:Int),0<=m->0<=(Dh l d m).2/\(Dh l d m).2<=m
 | [],d,m,hm=>by simp only [Dh];omega
 | t::r,d,m,hm=>by
  have h1:=OO t d m hm;simp only [Dh];split
  . have:=NQ r d (t.lim d m).2 h1.1;omega
  . omega
end
def Qw (l:List Nd) (j:Nat) (h:j<l.length) (d m:Int):Dh (l.drop j) d m=if (l[j].lim d m).1 then Dh (l.drop (j+1)) d (l[j].lim d m).2 else (false,(l[j].lim d m).2):=by
 rw [dH h,Dh]
def Ut (N:Nat) : ∀(t:Nd) (S:nP) (a:oA) (c:Nat) (d m:Int) (G:Nat) (w:wD),t.size<N->t.wf->0<=d->d<=1000000->0<=m->m<=1000000->t.sits S w a -> ¬S G->Blk w G [.int .i64 m] ->
 Calls prog 53 #[t.val a c,.int .i64 d,.pointer (some ⟨G,0,none⟩)] w fun e w'=>e = .returned (.bool (t.lim d m).1)/\Blk w' G [.int .i64 (t.lim d m).2]/\Fr (· = G) w w':=by
 induction N with
 | zero=>intro t S a c d m G w h;omega
 | succ N ih=>
  intro t S a c d m G w hN aa ap aq ar au hs hS hb;have IH:=bU ih;clear ih;obtain ⟨k,n,s,l⟩:=t;simp only [Nd.wf,fF] at aa hN;simp only [Nd.val,fS,Nd.num,fQ,Nd.kids,Nd.lim];simp only [fT] at hs;obtain ⟨-,-,-,-,-,av,ag⟩:=aa;have ao:=hb.lt;by_cases U:d=0\/m=0
  . rw [AG U];refine Ac func53 ntmps53 rfl rfl ?_;refine eK ?_;refine Kj rfl rfl rfl ?_;intro b1 w1 F;have h1:=F.blk;have x1:=F.ext;have X:=hb.ext x1;by_cases hd:d=0
    . refine C1 Pa (Ak (Ag (Ai (Ai (Aj (C1 Mv (C1 V1 (C1 Mv (AZ rfl rfl rfl Ae rfl (AZ rfl rfl rfl Ae rfl (AZ rfl rfl rfl Ae rfl ?_)))))))))));refine AZ rfl rfl rfl Ae rfl (C1 Rw (Ak (Ag (EF rfl (by rfl) ?_))));refine eK ?_;refine AM results53 rfl ?_;exact ⟨rfl,X,.of_ext x1⟩
    . have hm:m=0:=by omega
      refine C1 Pa (Ak (Ag (Ai (Ai (Aj (C1 Mv (C1 V1 (C1 Mv (AP rfl rfl rfl Ae (C1 Mv (AP rfl rfl rfl Ae ?_)))))))))));refine C1 Pn (AP rfl rfl rfl Ae (C1 Hu (AP rfl rfl rfl Ae ?_)));refine eK ?_;refine AM results53 rfl ?_;exact ⟨rfl,X,.of_ext x1⟩
  . rw [As U];have hd:d≠0:=fun e=>U (bW e)
    have hm:m≠0:=fun e=>U (bX e)
    clear U;refine Ac func53 ntmps53 rfl rfl ?_;refine eK ?_;refine Kj rfl rfl rfl ?_;intro b1 w1 F;have h1:=F.blk;have x1:=F.ext;have p1:=F.pos;have X:=hb.ext x1;have ah:=hs.ext x1;refine C1 Pa (Ak (Ag (Ai (Ai (Aj (C1 Mv (C1 V1 (C1 Mv (AP rfl rfl rfl Ae (C1 Mv (AP rfl rfl rfl Ae ?_)))))))))));refine C1 Pn (AP rfl rfl rfl Ae (C1 Hu (AP rfl rfl rfl Ae (C1 V1 (C1 Rk (Ak (Ag (U4 (Am (Ag (Ai ?_)))))))))));refine Aj (C1 Mv (C1 Pn (C1 Hu (CD (by exact Bq rfl rfl (dA _ Ab)) rfl (C1 Pn (Js Ad rfl rfl rfl rfl rfl rfl (X) rfl ?_))))));intro w2 L;have ai:Blk w2 G [.int .i64 (m-1)]:=L.blk;have h2:=h1.put L Ab;have ab:rowSits S w2 l a:=ah.fr L.fr (fun b hb e=>hS (e▸hb));have f2:Fr (· = G) w w2:=(fE x1).trans L.fr;have aw:w2.heap.size=b1+1:=by rw [L.size,F.size]
    clear L F;have aj:=bU ab;clear ab;refine eK ?_;refine A1 (ι:=Nat) (fun x=>[(25,.int .i64 x),(24,.int .i64 l.length),(23,.slice a l.length c),(2,.pointer (some ⟨G,0,none⟩)),(1,.int .i64 d)]) (fun x w'=>Fr (· = G) w2 w'/\x<=l.length /\ ∃V,Blk w' G [.int .i64 V]/\0<=V/\V<=1000000/\Dh l (d-1) (m-1)=Dh (l.drop x) (d-1) V) (fun x=>l.length-x) 0 sB ⟨fC _ _,cQ _,m-1,ai,Ab,Ab,rfl⟩ ?_;rintro j w3 ⟨f3,hj,V,ac,Y,ad,ae⟩;have HR:=bU ae;clear ae;by_cases M:j<l.length
    . have ak:rowSits S w3 l a:=aj.out.fr f3 (fun b hb e=>hS (e▸hb));obtain ⟨kb,ko,rfl,ax,Z⟩:=BA ak (by intro e;subst e;simp at M);obtain ⟨xa,xc,rx,sx⟩:=Z j l[j] (bT M);have al:=BF ag l[j] (cL M);have ay:=DP (cL M);have HD:=bU (Qw l j M (d-1) V);clear Z;generalize l[j]=x at *;have am:=OO x (d-1) V Y;refine eK ?_;refine Fj CY rfl rfl ?_;intro b4 w4 O;refine Gg Ad rfl rfl rfl rfl rfl rfl (O) rfl ?_;clear O w4;intro w4 O;have h4:=O.blk;have x4:=O.ext;have an:=ac.ext x4;refine Ak (Ag (Ai (Aj ?_)));refine CD (by exact Cl Ad rfl rfl rfl (by exact fun wz hz=>by (try subst hz);exact (fN Ae)) (by rfl)) rfl ?_;refine C1 Mv (CD (by exact Bq rfl rfl (dA _ Ab)) rfl (C1 Mv (cC rfl (IH.out x S xa xc (d-1) V G _ Ab al Ab Ab Y ad (sx.ext x4) hS an) ?_)));rintro _ w5 ⟨⟨⟩,af,f5⟩;have f35:Fr (· = G) w2 w5:=f3.trans ((fE x4).trans f5);cases U:(x.lim (d-1) V).1
      . try rw [U]
        refine C1 Pt (Ak (Ag (EF rfl (by rfl) ?_)));refine eK ?_;refine AM results53 rfl ?_;rw [HR.out,HD.out,U];exact ⟨rfl,af,f2.trans f35⟩
      . try rw [U]
        refine C1 Pt (Ak (Ag (FK rfl (by rfl) (Am (Af (Ag (Aj (C1 V7 (C1 Mv (Ak ?_))))))))));refine AI (j+1) sB ⟨f35,Ab,(x.lim (d-1) V).2,af,am.1,Ab,?_⟩ Ab;rw [HR.out,HD.out,U];rfl
    . refine eK ?_;refine AM results53 rfl ?_;have:l.drop j=[]:=List.drop_eq_nil_of_le Ab;rw [HR.out,this];exact ⟨rfl,ac,f2.trans f3⟩
def Ext.fr1 {a b c:wD} {F:Nat} (h:Ext a b) (k:Fr (· = F) b c) (L:a.heap.size<=F):Ext a c:=
 ⟨k.os.trans (Below.os h),k.tape.trans (Below.tape h),k.output.trans (Below.output h),dV h.size k.size,fun i G=>(k.block i (Nat.lt_of_lt_of_le G h.size) Ab).trans (h.block G)⟩
def V0 {S:nP} {w:wD} (t:Nd) (a:oA) (h:t.sits S w a):t.sits (fun b=>S b/\b<w.heap.size) w a:=by
 have key : ∀N:Nat,(∀(l:List Nd) (a:oA),Aq l<N->rowSits S w l a->rowSits (fun b=>S b/\b<w.heap.size) w l a):=by
  intro N
  induction N with
  | zero=>intro l a h;omega
  | succ N F=>
   intro l a G h;cases l with
   | nil=>simp [rowSits]
   | cons x r=>
    simp only [rowSits] at h ⊢;obtain ⟨b,o,L,c,rfl,U,M,V,X,Y,O,Z⟩:=h;have hb:=Co M;simp only [Aq] at G;have hx:=Nd.size_pos x;obtain ⟨k,n,s,l⟩:=x;simp only [fF] at G;refine ⟨b,o,L,c,rfl,⟨U,hb⟩,M,V,X,Y,?_,F r _ Ab Z⟩;simp only [fT] at O ⊢;exact F l L Ab O
 obtain ⟨k,n,s,l⟩:=t;simp only [fT] at h ⊢;exact key (Aq l+1) l a Ab h
def Qx (t:Nd) (S:nP) (a:oA) (c:Nat) (w:wD) (L:t.wf) (V:t.sits S w a) :
 Calls prog 25 #[t.val a c] w fun e w'=>e = .returned (.bool (DZ t))/\Ext w w':=by
 have M:=V0 t a V;refine Ac func25 ntmps25 rfl rfl ?_;refine eK ?_;refine Kj rfl rfl rfl ?_;intro b1 w1 G;have Y:=G.blk;have x1:=G.ext;have p1:=G.pos;have z1:=G.size;refine eK ?_;refine Fj CY rfl rfl ?_;intro Z N F;refine Gg Ad rfl rfl rfl rfl rfl rfl (F) rfl ?_;clear F N;intro N F;have x2:=F.ext;have h2:=Y.ext x2;have aa:=F.pos;refine Ak (Ag (Ai (Aj ?_)));refine CD (by exact Cl Ad rfl rfl rfl (by exact fun wz O=>by (try subst O);exact (fN Ae)) (by rfl)) rfl ?_;refine cC rfl (Ut (t.size+1) t _ a c 80 2000 Z _ Ab L Ab Ab Ab Ab (M.ext (by refine fI ?_ Ae;assumption)) (fun h=>by omega) F.blk) ?_;rintro _ w3 ⟨⟨⟩,-,X⟩;have U:Ext w w3:=Ext.fr1 (b:=N) (by refine fI ?_ Ae;assumption) X Ab;have h3:=h2.fr X Ab;cases hq:(t.lim 80 2000).1
 . try rw [hq]
   refine eK ?_;refine AM results25 rfl ?_;exact ⟨AV (by simp [DZ,hq]),U⟩
 . try rw [hq]
   refine C1 Mv (Bh rfl rfl rfl (rfl) ?_);refine CD (by exact Cl Ad rfl rfl rfl (by exact fun wz O=>by (try subst O);exact (fN Ae)) (by rfl)) rfl ?_;refine Bh rfl rfl rfl (rfl) (cC rfl (Nz S t L a c _ (V.ext U)) ?_);rintro _ w4 ⟨⟨⟩,x4⟩;refine eK ?_;refine AM results25 rfl ?_;exact ⟨AV (by simp [DZ,hq]),U.trans x4⟩
structure PD.wf (p:PD):Prop where
 name:p.name.length<=9223372036854775807
 len:p.params.length<=9223372036854775807
 params : ∀v∈p.params,v.wf
 body:p.body.wf
structure PG.wf (g:PG):Prop where
 nv:g.vars.length<=9223372036854775807
 np:g.procs.length<=9223372036854775807
 vars : ∀v∈g.vars,v.wf
 procs : ∀p∈g.procs,p.wf
 main:g.main.wf
def Qz {l:List PD} {j:Nat} (h:j<l.length) (F:l[j].ok=false):l.all PD.ok=false:=by
 rw [List.all_eq_false];exact ⟨l[j],cL h,by simp [F]⟩
def R3 {l:List PD} (h : ∀j (L:j<l.length),l[j].ok=true):l.all PD.ok=true:=by
 rw [List.all_eq_true];intro x F;obtain ⟨i,G,rfl⟩:=List.mem_iff_getElem.1 F;exact h i G
def XY (g:PG) (S:nP) (va:oA) (vc:Nat) (Z:oA) (pc:Nat) (ma:oA) (mc:Nat) (w:wD) (h:g.wf) (hs:g.sits S w va Z ma) :
 Calls prog 8 #[.agg (g.cells va vc Z pc ma mc).toArray] w fun e w'=>e = .returned (.bool g.ok)/\Ext w w':=by
 have aa:=h.nv;have ag:=h.np;refine Ac func8 ntmps8 rfl rfl ?_;refine eK ?_;refine Kj rfl rfl rfl ?_;intro b1 w1 X;have h1:=X.blk;have x1:=X.ext;by_cases c1:32<g.vars.length
 . refine C1 Pa (Ak (Ag (Ai (Ai (Aj (C1 Pg (C1 Hu (C1 Pz (C1 V5 (C1 Mv (AZ rfl rfl rfl Ab rfl ?_)))))))))));refine AZ rfl rfl rfl Ab rfl (AZ rfl rfl rfl Ab rfl (AZ rfl rfl rfl Ab rfl (C1 SG (C1 Mv (Bm rfl rfl rfl (rfl) rfl (Bm rfl rfl rfl (rfl) rfl (Bm rfl rfl rfl (rfl) rfl (Bm rfl rfl rfl (rfl) rfl (C1 (B6 rfl rfl rfl) (Ak (Ag ?_)))))))))));refine EF rfl (by rfl) ?_;refine eK ?_;refine AM results8 rfl ?_;exact ⟨AV (by simp [PG.ok];omega),x1⟩
 by_cases c2:64<g.procs.length
 . refine C1 Pa (Ak (Ag (Ai (Ai (Aj (C1 Pg (C1 Hu (C1 Pz (C1 V5 (C1 Mv (AP rfl rfl rfl Ab ?_)))))))))));refine C1 Pf (AP rfl rfl rfl Ab (C1 Hu (AP rfl rfl rfl Ab (C1 Pz (AP rfl rfl rfl Ab (C1 V5 (C1 Jq (C1 Mv (AZ rfl rfl rfl Ab rfl (AZ rfl rfl rfl Ab rfl (AZ rfl rfl rfl Ab rfl ?_)))))))))));refine AZ rfl rfl rfl Ab rfl (C1 SG (Ak (Ag (EF rfl (by rfl) ?_))));refine eK ?_;refine AM results8 rfl ?_;exact ⟨AV (by simp [PG.ok];omega),x1⟩
 refine C1 Pa (Ak (Ag (Ai (Ai (Aj (C1 Pg (C1 Hu (C1 Pz (C1 V5 (C1 Mv (AP rfl rfl rfl Ab ?_)))))))))));refine C1 Pf (AP rfl rfl rfl Ab (C1 Hu (AP rfl rfl rfl Ab (C1 Pz (AP rfl rfl rfl Ab (C1 V5 (C1 Jq (C1 Mv (AP rfl rfl rfl Ab (C1 Pg (AP rfl rfl rfl Ab ?_)))))))))));refine C1 Hu (AP rfl rfl rfl Ab (cC rfl (Mh g.vars S va vc _ aa h.vars (hs.vars.ext x1)) ?_));rintro _ w2 ⟨⟨⟩,x2⟩;cases hq:Gn g.vars
 . try rw [hq]
   refine AP rfl rfl rfl Ab (C1 Pt (C1 Jq (Ak (Ag (EF rfl (by rfl) ?_)))));refine eK ?_;refine AM results8 rfl ?_;exact ⟨AV (by simp [PG.ok,hq]),x1.trans x2⟩
 try rw [hq]
 have h2:=h1.ext x2;refine AP rfl rfl rfl Ab (C1 Pt (C1 Jq (Ak (Ag (FK rfl (by rfl) ?_)))));refine eK ?_;refine A1 (ι:=Nat) (fun j=>[(24,.int .i64 j),(23,.int .i64 g.procs.length),(22,.slice Z g.procs.length pc),(1,.pointer (some ⟨b1,0,none⟩))]) (fun j w'=>Ext w2 w'/\j<=g.procs.length /\ ∀i (hi:i<g.procs.length),i<j->g.procs[i].ok=true) (fun j=>g.procs.length-j) 0 sB ⟨eU _,Ab,Ab⟩ ?_;rintro j w3 ⟨x3,hj,L⟩;have HA:=bU L;clear L;have G:Ext w w3:=(by refine fI ?_ Ae;refine fI ?_ Ae;assumption)
 by_cases U:j<g.procs.length
 . have ab:PDs S w3 g.procs Z:=hs.procs.ext G;obtain ⟨kb,ko,rfl,-,M⟩:=Arr.get ab Ab;obtain ⟨qa,qc,ba,bc,rx,sv,sb⟩:=M j g.procs[j] (bT U);have wf:=h.procs g.procs[j] (cL U);have ac:=wf.name;have ad:=wf.len;have HN:=bU (Qz U);clear M;generalize hv:g.procs[j]=p at *;have HE:=bU hv;clear hv;refine eK ?_;refine Fj CY rfl rfl ?_;intro b4 w4 F;refine Gg Ad rfl rfl rfl rfl rfl rfl (F) rfl ?_;clear F w4;intro w4 F;have h4:=F.blk;have x4:=F.ext;refine eK ?_;refine cC rfl (I8 p.name _ ac) ?_;rintro _ w5 ⟨⟨⟩,x5⟩;have V:Ext w w5:=G.trans (x4.trans x5);have N:Ext w3 w5:=x4.trans x5;have h5:=h4.ext x5;cases hnm:CF p.name
   . try rw [hnm]
     refine C1 Pt (C1 Mv (Bm rfl rfl rfl (rfl) rfl (Bm rfl rfl rfl (rfl) rfl (Bm rfl rfl rfl (rfl) rfl (Bm rfl rfl rfl (rfl) rfl (C1 (B6 rfl rfl rfl) (C1 Mv (Bm rfl rfl rfl (rfl) rfl (Bm rfl rfl rfl (rfl) rfl (Bm rfl rfl rfl (rfl) rfl (Bm rfl rfl rfl (rfl) rfl ?_)))))))))));refine C1 (B6 rfl rfl rfl) (C1 Mv (Bm rfl rfl rfl (rfl) rfl (Bm rfl rfl rfl (rfl) rfl (Bm rfl rfl rfl (rfl) rfl (Bm rfl rfl rfl (rfl) rfl (C1 (B6 rfl rfl rfl) (Ak (Ag (EF rfl (by rfl) ?_)))))))));refine eK ?_;refine AM results8 rfl ?_;exact ⟨AV (by simp [PG.ok,HN.out (by simp [PD.ok,hnm])]),V⟩
   try rw [hnm]
   by_cases c3:8<p.params.length
   . refine C1 Pt (C1 Mv (Bh rfl rfl rfl (rfl) (C1 Pf (Bh rfl rfl rfl (rfl) (C1 Hu (Bh rfl rfl rfl (rfl) (C1 Pz (Bh rfl rfl rfl (rfl) (C1 V5 (C1 (B0 rfl rfl rfl) (C1 Mv ?_)))))))))));refine AZ rfl rfl rfl Ab rfl (AZ rfl rfl rfl Ab rfl (AZ rfl rfl rfl Ab rfl (AZ rfl rfl rfl Ab rfl (C1 SG (C1 Mv (Bm rfl rfl rfl (rfl) rfl (Bm rfl rfl rfl (rfl) rfl (Bm rfl rfl rfl (rfl) rfl (Bm rfl rfl rfl (rfl) rfl (C1 (B6 rfl rfl rfl) (Ak ?_)))))))))));refine Ag (EF rfl (by rfl) ?_);refine eK ?_;refine AM results8 rfl ?_;exact ⟨AV (by simp [PG.ok,HN.out (by simp [PD.ok,hnm];omega)]),V⟩
   refine C1 Pt (C1 Mv (Bh rfl rfl rfl (rfl) (C1 Pf (Bh rfl rfl rfl (rfl) (C1 Hu (Bh rfl rfl rfl (rfl) (C1 Pz (Bh rfl rfl rfl (rfl) (C1 V5 (C1 (B0 rfl rfl rfl) (C1 Mv ?_)))))))))));refine AP rfl rfl rfl Ab (C1 Pf (AP rfl rfl rfl Ab (C1 Hu (AP rfl rfl rfl Ab (cC rfl (Mh p.params S qa qc _ ad wf.params (sv.ext N)) ?_)))));rintro _ w6 ⟨⟨⟩,x6⟩;have Y:Ext w w6:=V.trans x6;have O:Ext w3 w6:=N.trans x6;have h6:=h5.ext x6;cases hq2:Gn p.params
   . try rw [hq2]
     refine AP rfl rfl rfl Ab (C1 Pt (C1 Jq (C1 Mv (Bm rfl rfl rfl (rfl) rfl (Bm rfl rfl rfl (rfl) rfl (Bm rfl rfl rfl (rfl) rfl (Bm rfl rfl rfl (rfl) rfl (C1 (B6 rfl rfl rfl) (Ak (Ag (EF rfl (by rfl) ?_)))))))))));refine eK ?_;refine AM results8 rfl ?_;exact ⟨AV (by simp [PG.ok,HN.out (by simp [PD.ok,hq2])]),Y⟩
   try rw [hq2]
   refine AP rfl rfl rfl Ab (C1 Pt (C1 Jq (C1 Mv (Bh rfl rfl rfl (rfl) (C1 Pf (Bh rfl rfl rfl (rfl) ?_))))));refine CD (by exact DH Ad rfl rfl rfl (by exact fun wz hz=>by (try subst hz);assumption) (by rfl)) rfl ?_;refine Bh rfl rfl rfl (rfl) (cC rfl (Qx p.body S ba bc _ wf.body (sb.ext O)) ?_);rintro _ w7 ⟨⟨⟩,x7⟩;have ae:Ext w w7:=Y.trans x7;cases hq3:DZ p.body
   . try rw [hq3]
     refine Bh rfl rfl rfl (rfl) (C1 Pt (C1 (B0 rfl rfl rfl) (Ak (Ag (EF rfl (by rfl) ?_)))));refine eK ?_;refine AM results8 rfl ?_;exact ⟨AV (by simp [PG.ok,HN.out (by simp [PD.ok,hq3])]),ae⟩
   try rw [hq3]
   have af:p.ok=true:=by simp [PD.ok,hnm,hq2,hq3];omega
   refine Bh rfl rfl rfl (rfl) (C1 Pt (C1 (B0 rfl rfl rfl) (Ak (Ag (FK rfl (by rfl) (Am (Af (Ag (Aj (C1 V7 (C1 Mv ?_)))))))))));refine Ak ?_;refine AI (j+1) sB ⟨x3.trans (O.trans x7),Ab,fun i hi ah=>?_⟩ Ab;by_cases e:i=j
   . subst e;exact HE.out▸af
   . exact HA.out i hi Ab
 . have h3:=h2.ext x3;refine Ai (Aj (C1 V3 (Ak (Ag (Ai (Ds (Eg (A8 (A8 (BQ (Ag ?_)))))))))));refine Ai (Aj (C1 Pf ?_));refine CD (by exact DH Ad rfl rfl rfl (by exact fun wz hz=>by (try subst hz);assumption) (by rfl)) rfl ?_;refine cC rfl (Qx g.main S ma mc _ h.main (hs.main.ext G)) ?_;rintro _ w4 ⟨⟨⟩,x4⟩;refine eK ?_;refine AM results8 rfl ?_;refine ⟨AV ?_,G.trans x4⟩;have:=R3 (fun i hi=>HA.out i hi Ab);simp [PG.ok,hq,this];omega
def JT : ∀l:List Nd,0<=Bb l
 | []=>by simp [Bb]
 | t::r=>by have:=JT r;simp only [Bb];omega
mutual
def SZ : ∀(t:Nd) (d m:Int),t.depth<=d->(t.size:Int)<=m->t.lim d m=(true,m-t.size)
 | .mk _ _ _ l,d,m,hd,hm=>by
  simp only [Nd.depth] at hd;simp only [fF] at hm;have h0:0<=Bb l:=JT l;unfold Nd.lim;rw [As Ab,Mi l (d-1) (m-1) Ab Ab];simp only [fF];congr 1;omega
def Mi : ∀(l:List Nd) (d m:Int),Bb l<=d->(Aq l:Int)<=m->Dh l d m=(true,m-Aq l)
 | [],d,m,_,_=>by simp [Dh,Aq]
 | t::r,d,m,hd,hm=>by
  simp only [Bb] at hd;simp only [Aq] at hm;have h1:=SZ t d m Ab Ab;unfold Dh;rw [h1];simp only [if_true];rw [Mi r d _ Ab Ab];simp only [Aq];congr 1;omega
end
mutual
def Mj : ∀(t:Nd) (d m:Int),0<=d->(t.lim d m).1=true->t.depth<=d
 | .mk _ _ s l,d,m,hd,h=>by
  simp only [Nd.lim] at h;split at h
  . simp at h
  . have:=IZ l (d-1) (m-1) Ab h;simp only [Nd.depth];omega
def IZ : ∀(l:List Nd) (d m:Int),0<=d->(Dh l d m).1=true->Bb l<=d
 | [],d,m,hd,_=>by simp only [Bb];exact hd
 | t::r,d,m,hd,h=>by
  simp only [Dh] at h;split at h
  . rename_i ht;have h1:=Mj t d m hd ht;have h2:=IZ r d _ hd h;simp only [Bb];omega
  . simp at h
end
mutual
def NR : ∀(t:Nd) (d m:Int),0<=m->(t.lim d m).1=true->(t.size:Int)+(t.lim d m).2<=m
 | .mk _ _ s l,d,m,hm,h=>by
  simp only [Nd.lim] at h ⊢;split at h
  . simp at h
  . rename_i hn;rw [As hn];have:=JU l (d-1) (m-1) Ab h;simp only [fF];omega
def JU : ∀(l:List Nd) (d m:Int),0<=m->(Dh l d m).1=true->(Aq l:Int)+(Dh l d m).2<=m
 | [],d,m,hm,_=>by simp only [Dh,Aq];omega
 | t::r,d,m,hm,h=>by
  simp only [Dh] at h ⊢;split at h
  . rename_i ht;rw [AG ht];have h1:=NR t d m hm ht;have h0:=OO t d m hm;have h2:=JU r d (t.lim d m).2 h0.1 h;simp only [Aq];omega
  . simp at h
end
def body_iff {t:Nd}:DZ t=true↔t.isBlock=true/\t.depth<=80/\t.size<=2000:=by
 constructor
 . intro h;simp only [DZ,bZ] at h;have F:=NR t 80 2000 Ab h.1;have G:=OO t 80 2000 Ab;exact ⟨h.2,Mj t 80 2000 Ab h.1,Ab⟩
 . rintro ⟨F,G,L⟩;simp only [DZ,bZ];refine ⟨?_,F⟩;rw [SZ t 80 2000 G Ab]
def Di {g:PG} (h:g.ok=true):g.vars.length<=32/\g.procs.length<=64/\Gn g.vars=true/\(∀p∈g.procs,p.ok=true)/\DZ g.main=true:=by
 simp only [PG.ok,bZ,decide_eq_true_eq] at h;obtain ⟨⟨⟨⟨F,G⟩,L⟩,M⟩,N⟩:=h;exact ⟨F,G,L,List.all_eq_true.1 M,N⟩
def Wa {g:PG} (h:g.vars.length<=32) (F:g.procs.length<=64) (G:Gn g.vars=true) (L : ∀p∈g.procs,p.ok=true) (M:DZ g.main=true):g.ok=true:=by
 simp only [PG.ok,bZ,decide_eq_true_eq];exact ⟨⟨⟨⟨h,F⟩,G⟩,List.all_eq_true.2 L⟩,M⟩
def Dj {p:PD} (h:p.ok=true):CF p.name=true/\p.params.length<=8/\Gn p.params=true/\DZ p.body=true:=by
 simp only [PD.ok,bZ,decide_eq_true_eq] at h;obtain ⟨⟨⟨F,G⟩,L⟩,M⟩:=h;exact ⟨F,G,L,M⟩
def Uu {p:PD} (h:CF p.name=true) (F:p.params.length<=8) (G:Gn p.params=true) (L:DZ p.body=true):p.ok=true:=by
 simp only [PD.ok,bZ,decide_eq_true_eq];exact ⟨⟨⟨h,F⟩,G⟩,L⟩
def Wb (q:Bool) {t:Nd} (h:DZ t=true):DZ (t.inv q)=true:=by
 obtain ⟨F,G,L⟩:=body_iff.1 h;have:=Vo q (t.size+1) t Ab (bX F);exact body_iff.2 ⟨this.bl F,by rw [this.depth];exact G,by rw [this.size];exact L⟩
def PD.map (f:Nd->Nd) (p:PD):PD:=⟨p.name,p.params,f p.body⟩
def PG.inv (f:Nd->Nd) (q:Bool) (g:PG):PG:=⟨g.vars,g.procs.map (PD.map f),g.main.inv q⟩
def Uv {f:Nd->Nd} (q:Bool) {g:PG} (h:g.ok=true) (G : ∀p∈g.procs,DZ (f p.body)=true):(g.inv f q).ok=true:=by
 obtain ⟨L,M,N,O,U⟩:=Di h;refine Wa L (by simpa [PG.inv] using M) N (fun p V=>?_) (Wb q U);obtain ⟨x,F,rfl⟩:=List.mem_map.1 V;obtain ⟨X,Y,Z,p4⟩:=Dj (O x F);exact Uu X Y Z (G x F)
def Uw {f:Nd->Nd} (q:Bool) {g:PG} (h:g.wf) (F:g.ok=true) (L : ∀p∈g.procs,(f p.body).wf):(g.inv f q).wf:=by
 obtain ⟨O,U,V,X,M⟩:=Di F;refine ⟨h.nv,by simpa [PG.inv] using h.np,h.vars,fun p N=>?_,(Vo q (g.main.size+1) g.main Ab (bX (body_iff.1 M).1)).wf h.main⟩;obtain ⟨x,G,rfl⟩:=List.mem_map.1 N;have:=h.procs x G;exact ⟨this.name,this.len,this.params,L x G⟩
def JV {g:PG} (h:g.ok=true):g.main.isBlock=true:=(body_iff.1 (Di h).2.2.2.2).1
def Wc {g:PG} (h:g.ok=true) : ∀p∈g.procs,p.body.isBlock=true:=fun p F=>(body_iff.1 (Dj ((Di h).2.2.2.1 p F)).2.2.2).1
def Cw (ps:List PD) (d:Nat) (b:Bool) {k n:Int} {s:lB} {l:List Nd} (hk:k<50\/55<k) (r:Rn):Au ps (d+1) b (.mk k n s l) r=(A7 r).bind (CI (·.run1 (if b then Bd k else k) n s l)):=by
 conv=>lhs;unfold Au
 rw [As Ab,As Ab,As Ab,As Ab,As Ab]
def E7 (ps:List PD) (d:Nat) (b:Bool) {k n:Int} {s:lB} {l:List Nd} (hk:k=50\/k=51) (r:Rn):Au ps (d+1) b (.mk k n s l) r =
 (A7 r).bind fun r=>(CI (·.enters (ps.getD ((Cf ps s).getD 0) ⟨[],[],.mk 0 0 [] []⟩).params (l.map fQ)) r).bind fun r=>
  (AD (Au ps d) (b != decide (k=51)) (ps.getD ((Cf ps s).getD 0) ⟨[],[],.mk 0 0 [] []⟩).body r).bind fun r=>(A7 r).bind (CI (·.leaves)):=by
 conv=>lhs;unfold Au
 rw [As Ab,As Ab,As Ab,As Ab,AG hk]
def Mk {f g:Nd->Rn->Except Int Rn} {q:Bool} : ∀(l:List Nd),(∀t∈l,f (t.inv q)=g t)->E2 f (B3 q l)=E2 g l
 | [],_=>rfl
 | t::l,h=>by
  funext r;simp only [E2,B3];rw [h t AR,Mk l (fun x F=>h x (by simp [F]))]
def Jh {t:Nd} (h:t.isBlock=true):t = .mk 57 0 [] t.kids /\ ∀x∈t.kids,x.isStmt=true:=by
 obtain ⟨k,n,s,l⟩:=t;simp only [Nd.isBlock,bZ,beq_iff_eq,plain,List.isEmpty_iff] at h;obtain ⟨⟨rfl,rfl,rfl⟩,h⟩:=h;exact ⟨rfl,rowStmt_iff.1 h⟩
def Ml {f g:Bool->Nd->Rn->Except Int Rn} {q:Bool} (H : ∀b t,t.isStmt=true->f b (t.inv q)=g (!b) t) {t:Nd} (h:t.isBlock=true) (b:Bool):AD f b (t.inv q)=AD g (!b) t:=by
 obtain ⟨e,G⟩:=Jh h;generalize t.kids=l at *;subst e;rw [Er];funext r;unfold AD;simp only [Nd.kids];cases b
 . simp only [dK,if_false,Bool.not_false,if_true];rw [<-I4,Mk l.reverse (fun t F=>H false t (G t (by simpa using F)))];rfl
 . simp only [if_true,List.reverse_reverse,Bool.not_true,dK,if_false];rw [Mk l (fun t F=>H true t (G t F))];rfl
def Mm (f:Bool->Nd->Rn->Except Int Rn) (b:Bool) {t:Nd} (h:t.kids=[]):AD f b t=fun r=>.ok r:=by
 funext r;unfold AD;rw [h];cases b<;>rfl
def En (q:Bool) (ps:List PD):List PD:=if q then ps.map (PD.map (·.inv true)) else ps
def Ux (f:Nd->Nd) (ps:List PD) (s:lB):Cf (ps.map (PD.map f)) s=Cf ps s:=by
 unfold Cf;rw [List.findIdx?_map];rfl
def XZ (q:Bool) (ps:List PD) (s:lB):Cf (En q ps) s=Cf ps s:=by
 unfold En;split
 . exact Ux _ _ _
 . rfl
def E8 {t:Nd} (h:t.isPlace=true):t.isExpr=true:=by
 simp only [Nd.isPlace,bZ] at h;exact h.2
def Zo (a b:Bool):((!a) != b) = !(a != b):=by cases a<;>cases b<;>rfl
def S0 (q:Bool) {ps:List PD} (O : ∀p∈ps,p.body.isBlock=true) : ∀(d:Nat) (b:Bool) (t:Nd),t.isStmt=true->Au (En q ps) d b (t.inv q)=Au ps d (!b) t
 | 0,b,t,_=>by funext r;simp [Au]
 | d+1,b,t,h=>by
  have IH:=S0 q O d;have M : ∀ {x:Nd},x.isBlock=true -> ∀b,AD (Au (En q ps) d) b (x.inv q)=AD (Au ps d) (!b) x:=fun h b=>Ml IH h b
  have X:=BT h;cases X with
  | upd F G L=>
   rename_i k x y;rw [Lk q F (E8 G) L];funext r;have V:Bd k=40\/Bd k=41\/Bd k=42\/Bd k=56:=by unfold Bd;rcases F with rfl|rfl|rfl|rfl<;>simp
   rw [Cw _ _ _ Ab,Cw _ _ _ Ab];cases b<;>simp [Es]
  | swap G L=>
   rename_i x y;rw [JF q (E8 G) (E8 L)];funext r;rw [Cw _ _ _ Ab,Cw _ _ _ Ab];cases b<;>simp [Bd]
  | stack F Y G=>
   rename_i k s x;rw [Gk q Ab (E8 G)];funext r;have V:Bd k=44\/Bd k=45:=by unfold Bd;rcases F with rfl|rfl<;>simp
   rw [Cw _ _ _ Ab,Cw _ _ _ Ab];cases b<;>simp [Es]
  | tape F G=>
   rename_i k x;rw [Gk q Ab (E8 G)];funext r;have V:Bd k=46\/Bd k=47\/Bd k=48\/Bd k=49:=by unfold Bd;rcases F with rfl|rfl|rfl|rfl<;>simp
   rw [Cw _ _ _ Ab,Cw _ _ _ Ab];cases b<;>simp [Es]
  | call F Y hl hv=>
   rename_i k s l;rw [JG q F hv];funext r;have V:(if q=true then k else Bd k)=50\/(if q=true then k else Bd k)=51:=by unfold Bd;cases q<;>rcases F with rfl|rfl<;>simp
   rw [E7 _ _ _ V,E7 _ _ _ F];simp only [XZ];generalize (Cf ps s).getD 0=i;cases q
   . simp only [En,dK,if_false];have Z:(b != decide (Bd k=51))=((!b) != decide (k=51)):=by
      rw [Zo];rcases F with rfl|rfl<;>cases b<;>rfl
     rw [Z]
   . simp only [if_true] at M ⊢;rw [Zo];have Z:((En true ps).getD i ⟨[],[],.mk 0 0 [] []⟩).params=(ps.getD i ⟨[],[],.mk 0 0 [] []⟩).params:=by
      simp only [En,if_true,cB,dZ];cases ps[i]? <;> rfl
     have e3 : ∀c,AD (Au (En true ps) d) c ((En true ps).getD i ⟨[],[],.mk 0 0 [] []⟩).body=AD (Au ps d) (!c) (ps.getD i ⟨[],[],.mk 0 0 [] []⟩).body:=fun c=>by
      rcases cO i ps.length with N|N
      . have h1:((En true ps).getD i ⟨[],[],.mk 0 0 [] []⟩).body=(ps.getD i ⟨[],[],.mk 0 0 [] []⟩).body.inv true:=by
         simp only [En,if_true,cB,dZ,bT N];rfl
        rw [h1];refine M (O _ ?_) c;simp only [cB,bT N,Option.getD_some];exact cL N
      . have h1:(ps.getD i ⟨[],[],.mk 0 0 [] []⟩).body = .mk 0 0 [] []:=by simp [cB,cI N]
        have h2:((En true ps).getD i ⟨[],[],.mk 0 0 [] []⟩).body = .mk 0 0 [] []:=by simp [En,cB,cI N]
        rw [h1,h2,Mm _ _ rfl,Mm _ _ rfl]
     rw [Z,e3]
  | branch F G L U hu=>
   rename_i k x y z u;rw [G2 q F G L U hu];funext r;unfold Au;have f1 : ∀p:Bool,AD (Au (En q ps) d) b (if p=true then y.inv q else z.inv q)=AD (Au ps d) (!b) (if p=true then y else z):=fun p=>by
    cases p
    . exact M U b
    . exact M L b
   rcases F with rfl|rfl
   . cases b<;>simp [Bw,f1]
   . cases b<;>simp [Bw,M L,M U]
  | local_ Y G L U=>
   rename_i s x y z;rw [Ix q G L U];funext r;unfold Au;cases b<;>simp [Bw,M L]
  | lstack Y G=>
   rename_i s x;rw [G3 q G];funext r;unfold Au;simp [Bw,M G]
def Uy (q:Bool) {ps:List PD} (F : ∀p∈ps,p.body.isBlock=true) (d:Nat) (b:Bool) {t:Nd} (h:t.isBlock=true):AD (Au (En q ps) d) b (t.inv q)=AD (Au ps d) (!b) t:=
 Ml (S0 q F d) h b
attribute [local irreducible] Go.Calls
section
variable {at_:lB->Option (List Int)} {f:FuncId} {fi:lV} {I:wD->Prop}
def OP (V:CO prog f=true) (O:KO at_ f fi I) (t:Nd) (Y:t.wf) (U:t.isExpr=true) (S:nP) (a:oA) (c:Nat) (w:wD) (h:t.sits S w a) (F:Keep I w) :
 Calls prog 167 #[t.val a c,.func (.func f) fi.toArray #[]] w (ZO (AT at_ t) w):=by
 have G:=FX (· < w.heap.size) t Y;unfold Et at G;rw [U] at G;have Z:=bU G;have L:=PW V O (t.size+1) t Ab U;unfold Zf at L;have L:=bU L;have h:=BZ _ _ h;have X:=eU w;clear O G;generalize AT at_ t=r at *;refine Ac func167 ntmps167 rfl rfl ?_;refine cS (eB [_,_,_,_] ?_);intro b1 w2 M x5 p6 z7;revert F h X;refine eE x5 ?_;intro F h X;refine eK ?_;refine C1 (JB Ad rfl rfl) ?_;refine eK ?_;refine cC rfl (Z.out _ _ _ Ae) ?_;rintro _ w9 ⟨⟨⟩,x8⟩;revert M F h X;refine eY x8 ?_;intro aa M F h X;refine eK ?_;refine cC rfl (L.out _ _ _ _ Ae Ae) ?_;rintro _ ab ⟨⟨⟩,N⟩;revert M F h X;refine eY N ?_;intro ac M F h X;refine eK ?_;refine xT ?_;exact ⟨rfl,X⟩
def X0 (M:CO prog f=true) (G:KO at_ f fi I) (t:Nd) (N:t.wf) (O:t.isExpr=true) (S:nP) (a:oA) (c:Nat) (w:wD) (h:t.sits S w a) (F:Keep I w) :
 Calls prog 165 #[t.val a c,.func (.func f) fi.toArray #[]] w fun e w'=>e = .returned (.tuple #[.bool (decide ((AT at_ t).1≠0)),.int .i64 (AT at_ t).2])/\Ext w w':=by
 have U:=bU (OP M G t N O);have h:=BZ _ _ h;have X:=eU w;clear G;generalize AT at_ t=r at *;refine Ac func165 ntmps165 rfl rfl ?_;refine cS (eB [_,_,_,_] ?_);intro b1 w2 L V p6 z7;revert F h X;refine eE V ?_;intro F h X;refine eK ?_;refine cC rfl (U.out _ _ _ _ Ae Ae) ?_;rintro _ w9 ⟨⟨⟩,Y⟩;revert L F h X;refine eY Y ?_;intro Z L F h X;refine eK ?_;refine xT ?_;exact ⟨rfl,X⟩
def JW (hf:CO prog f=true) (HL:KO at_ f fi I) (t:Nd) (hw:t.wf) (V:t.isPlace=true) (S:Nat->Prop) (a:Option Addr) (c:Nat) (w:World) (G:t.sits S w a) (M:Keep I w) :
 Calls prog 169 #[t.val a c,.func (.func f) fi.toArray #[]] w (ZO (Bi at_ t) w):=by
 have Y:=GJ (· < w.heap.size) t hw
 unfold Et at Y
 rw [V] at Y;have HE:=bU Y;replace G:=BZ _ _ G;have X:=eU w;have aa:=E8 V
 have Z:t.kind=2\/t.kind=3:=by
  simp only [Nd.isPlace,bZ,Bool.or_eq_true,beq_iff_eq] at V
  exact V.1
 have ab:=LR aa
 cases ab with
 | ref h1 h2=>
  rename_i k s
  have ac:k=2:=by simp only [fS] at Z;omega
  subst ac;have e:Bi at_ (.mk 2 0 s [])=(0,0):=rfl;rw [e]
  change Calls prog 169 #[.agg #[.int .u8 2,.int .i64 0,str s,.slice a 0 c],.func (.func f) fi.toArray #[]] w _
  refine Ac func169 ntmps169 rfl rfl ?_
  refine cS ?_;refine eB [_,_,_,_] ?_;intro b1 w2 h4 x5 p6 z7;revert M X G;refine eE x5 ?_;intro M X G;clear x5;refine C1 Pa (C1 Pa (cT (Ai (cS (C1 Mv (C1 (JB Ad rfl rfl) (cT (BD rfl (Am (Ag (Ai ?_)))))))))));refine cS (Cd [_,_,_,_] Ad rfl rfl rfl h4 rfl rfl rfl ?_);refine cC rfl (HE.out _ _ _ Ae) ?_;rintro _ w9 ⟨⟨⟩,x8⟩;have ag:=x8.size;revert h4 M X G;refine eE x8 ?_;intro h4 M X G;clear x8;refine C1 Pt (cT (BD rfl (Am (Ag (Ai (cS (C1 Pg (C1 (Pl h4) (C1 V1 (cT (Ve ?_)))))))))));refine cS (C1 Pa (C1 Pa (cT (AN (Ao (Be rfl rfl rfl ?_))))))
  exact ⟨rfl,X⟩
 | item h1 h2=>
  rename_i s x
  have e:Bi at_ (.mk 3 0 s [x])=AT at_ x:=rfl;rw [e];have HV:=PW hf HL (x.size+1) x Ab h2
  unfold Zf at HV
  replace HV:=bU HV;obtain ⟨kb,ko,xa,xc,rfl,-,N,h⟩:=Vx G;replace h:=BZ _ _ h;clear HL Y
  generalize AT at_ x=r at *
  change Calls prog 169 #[.agg #[.int .u8 3,.int .i64 0,str s,.slice (some ⟨kb,ko,none⟩) 1 c],.func (.func f) fi.toArray #[]] w _
  refine Ac func169 ntmps169 rfl rfl ?_
  refine cS ?_;refine eB [_,_,_,_] ?_;intro ah ai F U aj ak;revert M X G N h;refine eE U ?_;intro M X G N h;clear U;refine C1 Pa (C1 Pa (cT (Ai (cS (C1 Mv (C1 (JB Ad rfl rfl) (cT (BD rfl (Am (Ag (Ai ?_)))))))))));refine cS (Cd [_,_,_,_] Ad rfl rfl rfl F rfl rfl rfl ?_);refine cC rfl (HE.out _ _ _ Ae) ?_;rintro _ al ⟨⟨⟩,O⟩;have ad:=O.size;revert F M X G N h;refine eE O ?_;intro F M X G N h;clear O;refine C1 Pt (cT (BD rfl (Am (Ag (Ai (cS (C1 Pg (C1 (Pl F) (C1 V1 (cT (Np ?_)))))))))));refine Am (Ag (cS (C1 Pf (C1 (Pl F) (C1 Pi (Ce [_,_,_,_] Ad rfl rfl rfl N rfl rfl rfl (C1 Mv ?_)))))));refine cC rfl (HV.out _ _ _ _ Ae Ae) ?_;rintro _ ae ⟨⟨⟩,L⟩;have af:=L.size;revert F M X G N h;refine eE L ?_;intro F M X G N h;clear L;refine C1 Px (C1 Px (C1 Pa (C1 Pa (cT (AN (Be rfl rfl rfl ?_))))))
  exact ⟨rfl,X⟩
 | num=>simp only [fS] at Z;omega
 | un h1 h2=>simp only [fS] at Z;omega
 | bin h1 h2 h3=>simp only [fS] at Z;omega
end
def Wd (k x y:Int) (F:40<=k/\k<=42) (w:wD):Calls prog 172 #[.int .u8 k,.int .i64 x,.int .i64 y] w fun e w'=>e = .returned (.tuple #[.int .i64 (Lc k x y),.int .i64 0])/\w=w':=by
 refine Ac func172 ntmps172 rfl rfl ?_
 focus
  refine eK ?_;refine Ay rfl (fun h=>?_) (fun h=>?_);refine eK ?_;refine C1 (LD rfl rfl) ?_;refine eK ?_;refine xT ?_;rotate_left;refine eK ?_;refine Ay rfl (fun c2=>?_) (fun c2=>?_);refine eK ?_;refine C1 (Pr rfl rfl) ?_;refine eK ?_;refine xT ?_;rotate_left;refine eK ?_;refine C1 (SH rfl rfl) ?_;refine eK ?_;refine xT ?_;rotate_left
 all_goals (refine ⟨?_,rfl⟩;unfold Lc)
 . rw [AG Ae]
 . rw [As Ab,AG Ae]
 . rw [As Ab,As Ab]
section
variable {ρ ρ':Nat->Rl} {κ:Nat->Nat} {K:List (Int×Int)} {m sb:Nat} {st st':Stp} {w w' w1:wD} {S:nP}
def Fm (F:st.WF K m) (G:m<=1000000):KO st.look 170 [.pointer (some ⟨sb,0,none⟩)] (fun w=>StoreAt ρ κ w sb st):=fun s w L=>Qs F G s w L.h
def E9 (h:StoreAt ρ κ w sb st):Keep (fun w=>StoreAt ρ κ w sb st) w:=⟨h,fun _ _ h x=>h.ext x⟩
def ID (F:st.WF K m) {x:Nd} (h:x.isPlace=true) (G:x.bad st.cur.vars=0) : ∃i c,BR x.name st.cur.vars=some i/\st.cur.cells[i]? = some c/\st.cellD x.name=c/\st.look x.name=some (st.items c)/\c<st.heap.length/\(∃y,K[c]? = some y/\(y.1=1\/y.1=2)):=by
 obtain ⟨k,n,s,l⟩:=x;have L:k=2\/k=3:=by
  simp only [Nd.isPlace,fS,bZ,Bool.or_eq_true,beq_iff_eq] at h;exact h.1
 have M:=(JQ G).1;have e:CS k=1\/CS k=2:=by unfold CS;rcases L with rfl|rfl<;>decide
 obtain ⟨i,c,y,N,O,U,V,X,Y,Z,-⟩:=F.use (M Ab);exact ⟨i,c,N,O,U,V,X,y,Y,Ab⟩
def JX {c n F:Nat} {G:oA} {xs:List Int} (L:ρ (κ c) = .cell c) (O:Blk w (κ c) [.slice G n F]) (M:OwnR ρ (.items c) w (.slice G n F) xs) (U:0<n) : ∃g,G=some ⟨g,0,none⟩/\PlaceAt ρ κ w c g n F xs:=by
 rcases M.1.open with ⟨h,-⟩|⟨g',N,zs,h,-⟩
 . simp only [dI] at h;omega
 simp only [dI] at h;obtain ⟨rfl,-,-⟩:=h;exact ⟨g',rfl,L,M.2 g' rfl,O,M.1⟩
def X6 (hw:st.WF K m) (hm:m<=1000000) {k:Int} (hk:40<=k/\k<=42) {x y:Nd} (al:x.isPlace=true) (aq:y.isExpr=true) (ar:x.wf) (au:y.wf) (av:x.bad st.cur.vars=0) (a:Option Addr) (c0:Nat) (w:World) (hs:rowSits S w [x,y] a) (h:StoreAt ρ κ w sb st) :
 Calls prog 160 #[.pointer (some ⟨sb,0,none⟩),.agg #[.int .u8 k,.int .i64 0,str [],.slice a 2 c0]] w (StR ρ sb (st.exec k [] [x,y]).2 (st.exec k [] [x,y]).1 w):=by
 obtain ⟨i,c,hi,hc,ae,am,aw,-⟩:=ID hw al av
 have e:st.exec k [] [x,y]=if (Bi st.look x).2≠0 then ((Bi st.look x).2,st) else if (AT st.look y).2≠0 then ((AT st.look y).2,st) else if (Bi st.look x).1<0\/((st.items c).length:Int)<=(Bi st.look x).1 then (12,st) else (0,st.put c (Bi st.look x).1.toNat (Lc k ((st.items c).getD (Bi st.look x).1.toNat 0) (AT st.look y).1)):=by
  unfold Stp.exec
  simp only [List.getD_cons_zero,List.getD_cons_succ,As (show ¬k=43 by omega),AG hk,ae]
 rw [e];clear e;have O:=E9 h;have HX:=bU (fun xa xc w1 h1 h2=>JW A9 (Fm (sb:=sb) (ρ:=ρ) (κ:=κ) hw hm) x ar al (· < w.heap.size) xa xc w1 h1 h2);have HY:=bU (fun ya yc w1 h1 h2=>OP A9 (Fm (sb:=sb) (ρ:=ρ) (κ:=κ) hw hm) y au aq (· < w.heap.size) ya yc w1 h1 h2);have HC:=bU (fun w1 h=>Md (ρ:=ρ) (κ:=κ) (sb:=sb) hw hm x.name hi w1 h);rw [ae] at HC;obtain ⟨kb,ko,xa,xc,ya,yc,rfl,-,L,Y,M,Z⟩:=Ze hs;replace Y:=BZ _ _ Y;replace Z:=BZ _ _ Z;obtain ⟨ax,vi,G,af⟩:=h.cells _ _ (E6 aw);obtain ⟨ai,ci,rfl⟩:=af.1.shape;have ba:=hw.look_le am
 have an:=fun hn=>JX ax G af hn
 have HS:=bU h;have X:=eU w;clear h hs af;obtain ⟨xk,xn,xs,xl⟩:=x;obtain ⟨yk,yn,ys,yl⟩:=y;simp only [fQ] at HC hi ae am;replace L:Row w ⟨kb,ko+0*4,none⟩ [.int .u8 xk,.int .i64 xn,str xs,.slice xa xl.length xc]:=L;replace M:Row w ⟨kb,ko+1*4,none⟩ [.int .u8 yk,.int .i64 yn,str ys,.slice ya yl.length yc]:=M
 generalize hA:Bi st.look (.mk xk xn xs xl)=A at *
 generalize hB:AT st.look (.mk yk yn ys yl)=B at *
 generalize hn:(st.items c).length=n at *
 refine Ac func160 ntmps160 rfl rfl ?_
 focus
  refine cS ?_;refine eB [_,_,_,_] ?_;intro b1 w2 N x5 p6 z7;revert O X Y Z L M G;refine eE x5 ?_;intro O X Y Z L M G;clear x5;refine C1 Pa (cN (C1 Pf (C1 (Pl N) (C1 Pi (Ce [_,_,_,_] Ad rfl rfl rfl L rfl rfl rfl (C1 Mv (C1 (EY rfl rfl) ?_)))))));refine cC rfl (HX.out _ _ _ Ae Ae) ?_;rintro _ w9 ⟨⟨⟩,x8⟩;have bb:=x8.size;revert N O X Y Z L M G;refine eE x8 ?_;intro N O X Y Z L M G;clear x8;refine C1 Mv (C1 Px (C1 Px (C1 Pa (C1 Pa (cT (Ai (cS (C1 Mv (C1 V2 (cT ?_))))))))));refine BU rfl (fun ay=>?_) (fun ay=>?_);refine cS (C1 Mv (C1 Pa (cT (AN (Ao (AM rfl rfl ?_))))));rotate_left;refine Am (Ag (cS (C1 Pa (cT (Ai (cS (C1 Pg (C1 (Pl N) (cT (Av (cS ?_)))))))))));refine C1 V1 (C1 Pa (cT (Ds (Ai ?_))));rotate_left
 . rw [AG Ae]
   exact gA O.h X
 rw [As (fun h=>h Ae)];refine DY (ι:=Unit) (fun _=>[(0,.pointer (some ⟨sb,0,none⟩)),(3,.pointer (some ⟨b1,0,none⟩)),(5,.int .i64 A.1),(6,.int .i64 A.2),(7,.int .i64 0),(40,.bool true)]) (fun _ w'=>w'=w9) ?_ ?_
 . focus
    refine cS (C1 V1 (C1 Pa (cT ?_)));refine Ay rfl (fun az=>?_) (fun az=>?_);refine Am ?_;rotate_left;refine cS (C1 V1 (C1 Pa (cT ?_)));refine Ay rfl (fun a0=>?_) (fun a0=>?_);refine Am ?_;rotate_left;refine Aj (C1 V1 (C1 Pa (Ak ?_)));rotate_left
   all_goals exact B8 () (AQ rfl (AQ rfl (AQ rfl (AQ rfl (AQ rfl (Bx rfl (congrArg Value.bool (decide_eq_true Ab)) Cy)))))) rfl
 rintro-u1 hu;subst hu
 focus
  refine Cb rfl (Aj (C1 Pf (C1 (Pl N) (C1 Pi (C1 (W7 M) (C1 Mv (C1 (EY rfl rfl) ?_)))))));refine cC rfl (HY.out _ _ _ Ae Ae) ?_;rintro _ bc ⟨⟨⟩,ag⟩;have bd:=ag.size;revert N O X Y Z L M G;refine eE ag ?_;intro N O X Y Z L M G;clear ag;refine C1 Mv (C1 Px (C1 Px (C1 Pa (C1 Pa (Ak (Af (Ag (Ai (cS (C1 Mv (C1 V2 ?_)))))))))));refine cT ?_;refine BU rfl (fun a1=>?_) (fun a1=>?_);refine cS (C1 Mv (C1 Pa (cT (AN (Ao (AM rfl rfl ?_))))));rotate_left;refine Am (Ag (cS (C1 Mv (C1 Pf (C1 (Pl N) (C1 Pi (C1 Pf (C1 (Pw L) ?_))))))));refine cC rfl (HC.out _ (Keep.h Ae)) ?_;rintro _ ao ⟨⟨⟩,ah⟩;have be:=ah.size;revert N O X Y Z L M G;refine eE ah ?_;intro N O X Y Z L M G;clear ah;refine C1 Pn (C1 Pg (C1 (Pl G) (C1 Pa (cT (Ai ?_)))));rotate_left
 . rw [AG Ae]
   exact gA O.h X
 rw [As (fun h=>h Ae)]
 by_cases U:A.1<0\/(n:Int)<=A.1
 . rw [AG U];clear an
   focus
    refine cS (C1 Mv (C1 V3 (C1 Mv ?_)));refine C6 rfl rfl rfl (fun a2=>?_) (fun a2=>?_);refine Gb (Gb (Gb (Gb (C1 Rw (cT (Cb rfl (cS (C1 Pa (cT (AN (Ao ?_)))))))))));refine AM rfl rfl ?_;rotate_left;refine Ga (C1 Mv (Ga (C1 Mv (Ga (C1 Pz (Ga (C1 V6 (C1 Rk (cT (Vf (cS ?_)))))))))));refine C1 Pa (cT (AN (Ao (AM rfl rfl ?_))));rotate_left
   . exact gA O.h X
   . exact gA O.h X
 rw [As U];obtain ⟨g,rfl,hp⟩:=an Ab;replace hp:=hp.ext X;have ab:=hp.row (i:=A.1.toNat) Ab;have ho:=hp.ho;have F:=fC (· = g) ao;have Hp:=bU hp;have HI:=bU O.h;have a3:=bU X;clear hp O Y Z L M X
 generalize (st.items c).getD A.1.toNat 0=v0 at *
 refine cS (C1 Mv (C1 V3 (C1 Mv (EB (C1 Mv (EB (C1 Mv (EB (C1 Pz (EB (C1 V6 ?_)))))))))));refine C1 Jq (cT (Ds (Am (Ag (cS (C1 Mv (C1 Mv (C1 Pi (C1 Pa (cT (Ai ?_)))))))))));refine cS (C1 Pg (C1 (Pl N) (cT (Av (Ai ?_)))))
 refine DY (ι:=Unit) (fun _=>[(3,.pointer (some ⟨b1,0,none⟩)),(7,.int .i64 B.1),(9,.pointer (some ⟨g,0+A.1.toNat*1,none⟩)),(80,.bool true)]) (fun _ w'=>w'=ao) ?_ ?_
 . focus
    refine cS (C1 V1 (C1 Pa (cT ?_)));refine Ay rfl (fun a4=>?_) (fun a4=>?_);refine Am ?_;rotate_left;refine cS (C1 V1 (C1 Pa (cT ?_)));refine Ay rfl (fun a5=>?_) (fun a5=>?_);refine Am ?_;rotate_left;refine Aj (C1 V1 (C1 Pa (Ak ?_)));rotate_left
   all_goals exact B8 () (AQ rfl (AQ rfl (AQ rfl (Bx rfl (congrArg Value.bool (decide_eq_true Ab)) Cy)))) rfl
 rintro-u2 hu;subst hu
 have a6:A.1.toNat<(st.items c).length:=by omega
 refine Cb rfl (Ai ?_);refine Ar (fun wz=>Ext u2 wz) 11 (.pure 0 (.pure 1 (.pure 2 (.pure 3 (.pure 4 (.pure 5 (.fork 6 (.pure 7 (.pure 8 (.pure 9 (.pure 10 .tail)))) .none))))))) mixed A9 (Aa (Al (Aa Ah))) ?_;intro a7 ac _;have V:(fun wz=>Ext u2 wz) a7:=ac;simp only at V;have ad:=N;have aj:=G;have ap:=ho;have aa:=ab;have bf:=ac.size;revert N G ho F ab;refine eE ac ?_;intro N G ho F ab;clear ac;refine ⟨V,?_⟩;refine Tq rfl Pg (Tq rfl (Db ad) (Tq rfl Mv (Tq rfl Pn (Tq rfl (An Ad rfl rfl rfl (fun wz hz=>fV (fL aa hz) rfl)) (Tq rfl Mv ?_)))));refine Ax rfl (AU A9 rfl (Wd _ _ _ hk _) (fun _ _ h=>⟨_,h.1⟩)) rfl ?_ aFh Aw;rintro _ bg ⟨⟨⟩,rfl⟩;refine ⟨V,?_⟩;refine Tq rfl Mv (Tq rfl Px (Tq rfl Px (Tq rfl Pa ?_)));clear V ad aj ap aa;refine At rfl (C1 Pa (cT (Ai (cS (C1 Mv (C1 V1 (cT (Ve (Aj (C1 Mv (C1 Mv ?_)))))))))));refine C1 Pn ?_;refine Br (Cv Ad rfl rfl rfl Ae a6) ?_;refine Cg ?_;rintro _ a8 ⟨bh,⟨ak,bi⟩⟩;have a9:=ak.size;clear N G ho;replace F:=F.fr ak Ab;clear ab ak;refine cN (C1 Mv (C1 Pa (cT (AN (AH (Ao (AM rfl rfl ?_)))))))
 exact ⟨ρ,κ,rfl,gD _ _,HI.out.putI Hp.out.hrc Hp.out.hrg Hp.out.hb F Ae,(fE a3.out).fr F (fun k hk=>bW (by rw [show k=g from hk,Hp.out.hrg];trivial))⟩
def X8 (hw:st.WF K m) (hm:m<=1000000) {x y:Nd} (bh:x.isPlace=true) (bi:y.isPlace=true) (bt:x.wf) (bu:y.wf) (bv:x.bad st.cur.vars=0) (bw:y.bad st.cur.vars=0) (a:Option Addr) (c0:Nat) (w:World) (hs:rowSits S w [x,y] a) (h:StoreAt ρ κ w sb st) :
 Calls prog 160 #[.pointer (some ⟨sb,0,none⟩),.agg #[.int .u8 43,.int .i64 0,str [],.slice a 2 c0]] w (StR ρ sb (st.exec 43 [] [x,y]).2 (st.exec 43 [] [x,y]).1 w):=by
 obtain ⟨i,c,hi,hc,a5,bj,bk,-⟩:=ID hw bh bv;obtain ⟨i',U,bl,cl,ar,a2,bm,-⟩:=ID hw bi bw
 have e:st.exec 43 [] [x,y]=if (Bi st.look x).2≠0 then ((Bi st.look x).2,st) else if (Bi st.look y).2≠0 then ((Bi st.look y).2,st) else if (Bi st.look x).1<0\/((st.items c).length:Int)<=(Bi st.look x).1 then (12,st) else if (Bi st.look y).1<0\/((st.items U).length:Int)<=(Bi st.look y).1 then (12,st)
  else (0,(st.put c (Bi st.look x).1.toNat ((st.items U).getD (Bi st.look y).1.toNat 0)).put U (Bi st.look y).1.toNat ((st.items c).getD (Bi st.look x).1.toNat 0)):=by
  unfold Stp.exec
  simp only [List.getD_cons_zero,List.getD_cons_succ,if_true,As (show ¬(40<=(43:Int)/\(43:Int)<=42) by decide),a5,ar]
 rw [e];clear e;have hI:=E9 h;have HX:=bU (fun xa xc w1 h1 h2=>JW A9 (Fm (sb:=sb) (ρ:=ρ) (κ:=κ) hw hm) x bt bh (· < w.heap.size) xa xc w1 h1 h2);have HY:=bU (fun ya yc w1 h1 h2=>JW A9 (Fm (sb:=sb) (ρ:=ρ) (κ:=κ) hw hm) y bu bi (· < w.heap.size) ya yc w1 h1 h2);have HC:=bU (fun w1 h=>Md (ρ:=ρ) (κ:=κ) (sb:=sb) hw hm x.name hi w1 h);have HD:=bU (fun w1 h=>Md (ρ:=ρ) (κ:=κ) (sb:=sb) hw hm y.name bl w1 h);rw [a5] at HC;rw [ar] at HD;obtain ⟨kb,ko,xa,xc,ya,yc,rfl,-,M,hx,N,hy⟩:=Ze hs;replace hx:=BZ _ _ hx;replace hy:=BZ _ _ hy;obtain ⟨af,vi,G,a6⟩:=h.cells _ _ (E6 bk);obtain ⟨ai,ci,rfl⟩:=a6.1.shape;obtain ⟨bx,vj,L,a7⟩:=h.cells _ _ (E6 bm);obtain ⟨aj,cj,rfl⟩:=a7.1.shape;have cm:=hw.look_le bj;have b8:=hw.look_le a2
 have a8:=fun hn=>JX af G a6 hn
 have az:=fun hn=>JX bx L a7 hn
 have X:=eU w;clear h hs a6 a7;obtain ⟨xk,xn,xs,xl⟩:=x;obtain ⟨yk,yn,ys,yl⟩:=y;simp only [fQ] at HC HD hi a5 bj bl ar a2;replace M:Row w ⟨kb,ko+0*4,none⟩ [.int .u8 xk,.int .i64 xn,str xs,.slice xa xl.length xc]:=M;replace N:Row w ⟨kb,ko+1*4,none⟩ [.int .u8 yk,.int .i64 yn,str ys,.slice ya yl.length yc]:=N
 generalize hA:Bi st.look (.mk xk xn xs xl)=A at *
 generalize hB:Bi st.look (.mk yk yn ys yl)=B at *
 generalize hn:(st.items c).length=n at *
 generalize cn:(st.items U).length=n' at *
 refine Ac func160 ntmps160 rfl rfl ?_
 focus
  refine cS ?_;refine eB [_,_,_,_] ?_;intro b1 w2 Z x5 p6 z7;revert hI X hx hy M N G L;refine eE x5 ?_;intro hI X hx hy M N G L;clear x5;refine C1 Pa (cN (C1 Pf (C1 (Pl Z) (C1 Pi (Ce [_,_,_,_] Ad rfl rfl rfl M rfl rfl rfl (C1 Mv (C1 (EY rfl rfl) ?_)))))));refine cC rfl (HX.out _ _ _ Ae Ae) ?_;rintro _ w9 ⟨⟨⟩,x8⟩;have co:=x8.size;revert Z hI X hx hy M N G L;refine eE x8 ?_;intro Z hI X hx hy M N G L;clear x8;refine C1 Mv (C1 Px (C1 Px (C1 Pa (C1 Pa (cT (Ai (cS (C1 Mv (C1 V2 (cT ?_))))))))));refine BU rfl (fun bz=>?_) (fun bz=>?_);refine cS (C1 Mv (C1 Pa (cT (AN (Ao (AM rfl rfl ?_))))));rotate_left;refine Am (Ag (cS (C1 Pa (cT (Ai (cS (C1 Pg (C1 (Pl Z) (cT (Av (cS ?_)))))))))));refine C1 V1 (C1 Pa (cT (Ve (Aj (C1 Pf (C1 (Pl Z) (C1 Pi (C1 (W7 N) (C1 Mv (C1 (EY rfl rfl) ?_))))))))));refine cC rfl (HY.out _ _ _ Ae Ae) ?_;rintro _ cp ⟨⟨⟩,a9⟩;have cq:=a9.size;revert Z hI X hx hy M N G L;refine eE a9 ?_;intro Z hI X hx hy M N G L;clear a9;refine C1 Mv (C1 Px (C1 Px (C1 Pa (C1 Pa (Ak (Af (Ag (Ai (cS (C1 Mv (C1 V2 ?_)))))))))));refine cT ?_;refine BU rfl (fun b0=>?_) (fun b0=>?_);refine cS (C1 Mv (C1 Pa (cT (AN (Ao (AM rfl rfl ?_))))));rotate_left;refine Am (Ag (cS (C1 Mv (C1 Pf (C1 (Pl Z) (C1 Pi (C1 Pf (C1 (Pw M) ?_))))))))
  refine cC rfl (HC.out _ (Keep.h Ae)) ?_;rintro _ cr ⟨⟨⟩,ba⟩;have ct:=ba.size;revert Z hI X hx hy M N G L;refine eE ba ?_;intro Z hI X hx hy M N G L;clear ba;refine C1 Pn (C1 Pg (C1 (Pl G) (C1 Pa (cT (Ai ?_)))));rotate_left
 . rw [AG Ae]
   exact gA hI.h X
 . rw [As (fun h=>h Ae),AG Ae]
   exact gA hI.h X
 rw [As (fun h=>h Ae),As (fun h=>h Ae)]
 by_cases ak:A.1<0\/(n:Int)<=A.1
 . rw [AG ak];clear a8 az
   focus
    refine cS (C1 Mv (C1 V3 (C1 Mv ?_)));refine C6 rfl rfl rfl (fun b2=>?_) (fun b2=>?_);refine Gb (Gb (Gb (Gb (C1 Rw (cT (Cb rfl (cS (C1 Pa (cT (AN (Ao ?_)))))))))));refine AM rfl rfl ?_;rotate_left;refine Ga (C1 Mv (Ga (C1 Mv (Ga (C1 Pz (Ga (C1 V6 (C1 Rk (cT (Vf (cS ?_)))))))))));refine C1 Pa (cT (AN (Ao (AM rfl rfl ?_))));rotate_left
   . exact gA hI.h X
   . exact gA hI.h X
 rw [As ak];obtain ⟨g,rfl,hp⟩:=a8 Ab
 refine cS (C1 Mv (C1 V3 (C1 Mv (EB (C1 Mv (EB (C1 Mv (EB (C1 Pz (EB (C1 V6 ?_)))))))))));refine C1 Jq (cT (Ds (Am (Ag (cS (C1 Mv (C1 Mv (C1 Pi (C1 Pa (cT (Ai ?_)))))))))));refine cS (C1 Pg (C1 (Pl Z) (cT (Av (Ai (cS (C1 V1 (C1 Pa (cT (Np (cS ?_)))))))))));refine C1 V1 (C1 Pa (cT (Np (Aj (C1 V1 (C1 Pa (cT (Np (cS (C1 V1 (C1 Pa ?_)))))))))));refine cT (Ve (cS (C1 Mv (C1 Pf (C1 (Pl Z) (C1 Pi (C1 Pf (C1 (Pw N) ?_))))))));refine cC rfl (HD.out _ (Keep.h Ae)) ?_;rintro _ aa ⟨⟨⟩,bb⟩;have cu:=bb.size;revert Z hI X hx hy M N L G;refine eE bb ?_;intro Z hI X hx hy M N L G;clear bb;refine C1 Pn (C1 Pg (C1 (Pl L) (C1 Pa (cT (Ai ?_)))))
 by_cases ac:B.1<0\/(n':Int)<=B.1
 . rw [AG ac];clear az
   focus
    refine cS (C1 Mv (C1 V3 (C1 Mv ?_)));refine C6 rfl rfl rfl (fun b3=>?_) (fun b3=>?_);refine Gb (Gb (Gb (Gb (C1 Rw (cT (Cb rfl (cS (C1 Pa (cT (AN (Ao ?_)))))))))));refine AH (Ao (AM rfl rfl ?_));rotate_left;refine Ga (C1 Mv (Ga (C1 Mv (Ga (C1 Pz (Ga (C1 V6 (C1 Rk (cT (Vf (cS ?_)))))))))));refine C1 Pa (cT (AN (Ao (AH (Ao (AM rfl rfl ?_))))));rotate_left
   . exact gA hI.h X
   . exact gA hI.h X
 rw [As ac];obtain ⟨g',rfl,hq⟩:=az Ab
 have bc:A.1.toNat<(st.items c).length:=by omega
 have bd:B.1.toNat<(st.items U).length:=by omega
 have ad:=(hp.ext X).row bc;have ab:=(hq.ext X).row bd;have bn:=bU X;have HI:=bU hI.h;clear hx hy M N a8 az HX HY HC HD hI
 by_cases a0:U=c
 . subst a0
   have b4:g'=g:=by
    have h1:=(hp.hb.row.at0 rfl).symm.trans (hq.hb.row.at0 rfl);simp only [cE,dI,Addr.mk.injEq,and_true] at h1
    exact h1.1.symm
   subst b4
   have e:(st.put U A.1.toNat ((st.items U).getD B.1.toNat 0)).put U B.1.toNat ((st.items U).getD A.1.toNat 0)=st.all U (((st.items U).set A.1.toNat ((st.items U).getD B.1.toNat 0)).set B.1.toNat ((st.items U).getD A.1.toNat 0)):=by
    unfold Stp.put
    rw [CX,AG ⟨rfl,bk⟩]
    unfold Stp.all
    simp
   rw [e];clear e
   have bo : ∀v,B.1.toNat<((st.items U).set A.1.toNat v).length:=fun v=>by rw [List.length_set];exact bd
   have ho:=(hp.ext X).ho;have Hp:=bU (hp.ext X);have F:=fC (· = g') aa;clear hp hq X
   generalize (st.items U).getD A.1.toNat 0=v0 at *
   generalize (st.items U).getD B.1.toNat 0=v1 at *
   refine cS (C1 Mv (C1 V3 (C1 Mv (EB (C1 Mv (EB (C1 Mv (EB (C1 Pz (EB (C1 V6 ?_)))))))))));refine C1 Jq (cT (Ds (Am (Ag (Ai ?_)))));refine GF (fun wz=>Ext aa wz) (fun wz=>Fr (fun x=>x=g') aa wz) [1,2,11,12,13] [1,2] 11 12 (.free 1 (.free 2 (.pure 0 (.pure 3 (.pure 4 (.pure 5 (.pure 6 (.pure 7 (.pure 8 (.pure 9 (.pure 10 (.put 11 (.tail 12))))))))))))) (fun _ h=>fE h) mixed A9 (Aa (Al (Aa Ah))) ?_;intro bp au _;have a3:(fun wz=>Ext aa wz) bp:=au;simp only at a3;have al:(fun wz=>Fr (fun x=>x=g') aa wz) bp:=fE au;simp only at al;have av:=Z;have ag:=L;have ah:=G;have aw:=ho;have V:=ad;have Y:=ab;have cv:=au.size;revert Z L G ho F ad ab;refine eE au ?_;intro Z L G ho F ad ab;clear au;refine BI Ae rfl (AL rfl) rfl ?_;refine BI Ae rfl (AL rfl) rfl ?_;refine Ap Ae rfl (AL rfl) rfl ?_;refine Ap Ae rfl (AL rfl) rfl ?_;refine Ap Ae rfl (AL rfl) rfl ?_;refine Ap Ae rfl (Bf Ad rfl rfl rfl rfl Ab Ab) rfl ?_;refine Ap Ae rfl (An Ad rfl rfl rfl (fun wz hz=>fV (fL Y hz) rfl)) rfl ?_;refine Ap Ae rfl (AL rfl) rfl ?_;refine Ap Ae rfl (Bc rfl) rfl ?_
   refine Ap Ae rfl (An Ad rfl rfl rfl (fun wz hz=>fV (fL V hz) rfl)) rfl ?_;refine Ap Ae rfl (Bc rfl) rfl ?_;refine EI rfl (Cv Ad rfl rfl rfl Ae bc) ?_;refine Cg ?_;rintro _ cw ⟨b5,⟨a1,cx⟩⟩;have b9:=a1.size;replace al:=al.fr a1 Ab;clear Z L G ho;replace F:=F.fr a1 Ab;clear ad ab a1;refine ⟨Ae,?_⟩;clear a3 av ag ah aw V Y al;refine EH rfl (C1 Pi ?_);refine Br (Cv Ad rfl rfl rfl Ae (bo _)) ?_;refine Cg ?_;rintro _ ca ⟨cb,⟨ax,cc⟩⟩;have cd:=ax.size;clear b5;replace F:=F.fr ax Ab;clear ax;refine cN (C1 Pa (cT (AN (AH (Ao (AM rfl rfl ?_))))))
   exact ⟨ρ,κ,rfl,gD _ _,HI.out.putI Hp.out.hrc Hp.out.hrg Hp.out.hb F Ae,(fE bn.out).fr F (fun k hk=>bW (by rw [show k=g' from hk,Hp.out.hrg];trivial))⟩
 . have e:(st.put c A.1.toNat ((st.items U).getD B.1.toNat 0)).put U B.1.toNat ((st.items c).getD A.1.toNat 0)=(st.all c ((st.items c).set A.1.toNat ((st.items U).getD B.1.toNat 0))).all U ((st.items U).set B.1.toNat ((st.items c).getD A.1.toNat 0)):=by
    unfold Stp.put
    rw [CX,As (fun h=>a0 h.1)]
   rw [e];clear e;have be:=hp.ext X;have bf:=hq.ext X;have ao:=hp.hrg;have O:=hq.hrg
   have bq:g'≠g:=fun e=>by rw [e,ao] at O;simp at O;exact a0 O.symm
   have ho:=be.ho;have ap:=bf.ho;have Hp:=bU be;have Hq:=bU bf;have F:=fC (fun k=>k=g\/k=g') aa;clear hp hq X be bf
   generalize (st.items c).getD A.1.toNat 0=v0 at *
   generalize (st.items U).getD B.1.toNat 0=v1 at *
   refine cS (C1 Mv (C1 V3 (C1 Mv (EB (C1 Mv (EB (C1 Mv (EB (C1 Pz (EB (C1 V6 ?_)))))))))));refine C1 Jq (cT (Ds (Am (Ag (Ai ?_)))));refine GF (fun wz=>Ext aa wz) (fun wz=>Fr (fun x=>x=g) aa wz) [1,2,11,12,13] [1,2] 11 12 (.free 1 (.free 2 (.pure 0 (.pure 3 (.pure 4 (.pure 5 (.pure 6 (.pure 7 (.pure 8 (.pure 9 (.pure 10 (.put 11 (.tail 12))))))))))))) (fun _ h=>fE h) mixed A9 (Aa (Al (Aa Ah))) ?_;intro br ay _;have a4:(fun wz=>Ext aa wz) br:=ay;simp only at a4;have am:(fun wz=>Fr (fun x=>x=g) aa wz) br:=fE ay;simp only at am;have av:=Z;have ah:=G;have ag:=L;have aw:=ho;have bg:=ap;have V:=ad;have Y:=ab;have cy:=ay.size;revert Z G L ho ap F ad ab;refine eE ay ?_;intro Z G L ho ap F ad ab;clear ay;refine BI Ae rfl (AL rfl) rfl ?_;refine BI Ae rfl (AL rfl) rfl ?_;refine Ap Ae rfl (AL rfl) rfl ?_;refine Ap Ae rfl (AL rfl) rfl ?_;refine Ap Ae rfl (AL rfl) rfl ?_;refine Ap Ae rfl (Bf Ad rfl rfl rfl rfl Ab Ab) rfl ?_;refine Ap Ae rfl (An Ad rfl rfl rfl (fun wz hz=>fV (fL Y hz) rfl)) rfl ?_;refine Ap Ae rfl (AL rfl) rfl ?_
   refine Ap Ae rfl (Bc rfl) rfl ?_;refine Ap Ae rfl (An Ad rfl rfl rfl (fun wz hz=>fV (fL V hz) rfl)) rfl ?_;refine Ap Ae rfl (Bc rfl) rfl ?_;refine EI rfl (Cv Ad rfl rfl rfl Ae bc) ?_;refine Cg ?_;rintro _ cz ⟨bs,⟨aq,c1⟩⟩;have ce:=aq.size;replace am:=am.fr aq Ab;clear Z G L ho;replace ap:=OwnI.fr ap aq (fun k hk hS=>by (obtain rfl:=cD (show some g'=some k from hk);exact bq hS));replace F:=F.fr aq Ab;clear ad;replace ab:=ab.fr aq Ab;clear aq;refine ⟨Ae,?_⟩;clear a4 av ah ag aw bg V Y am;refine EH rfl (C1 Pi ?_);refine Br (Cv Ad rfl rfl rfl Ae bd) ?_;refine Cg ?_;rintro _ cf ⟨cg,⟨an,ch⟩⟩;have ck:=an.size;replace bs:=OwnI.fr bs an (fun k hk hS=>by (obtain rfl:=cD (show some g=some k from hk);exact bq hS.symm));clear ap;replace F:=fJ F an (fun k hk=>bW (bX hk));clear ab an;refine cN (C1 Pa (cT (AN (AH (Ao (AM rfl rfl ?_))))))
   have af:=Hp.out.hrc;have ae:=Hq.out.hrc
   have b6:=Hp.out.hb.fr F (fun e=>by
    rcases e with e|e
    . rw [e,ao] at af
      cases af
    . rw [e,O] at af
      cases af)
   have b7:=Hq.out.hb.fr F (fun e=>by
    rcases e with e|e
    . rw [e,ao] at ae
      cases ae
    . rw [e,O] at ae
      cases ae)
   exact ⟨ρ,κ,rfl,gD _ _,HI.out.set2 (Ne.symm a0) (F.weaken (fun k hk=>by rcases hk with rfl|rfl;exact bW (bX ao);exact bX (bX O))) (gD _ _) (HI.out.fresh.mv F) ⟨af,_,b6,Ae,fun k hk=>by obtain rfl:=cD (show some g=some k from hk);exact ao⟩ ⟨ae,_,b7,Ae,fun k hk=>by obtain rfl:=cD (show some g'=some k from hk);exact O⟩,
    (fE bn.out).fr F (fun k hk=>bW (by rcases hk with rfl|rfl;rw [ao];trivial;rw [O];trivial))⟩
def S1 (hw:st.WF K m) (hm:m<=1000000) {k:Int} {s:List UInt8} (hk:(44<=k/\k<=49)) {x:Nd} (au:x.isPlace=true) (ay:x.wf) (az:x.bad st.cur.vars=0) (a0:(k=44\/k=45)->EC st.cur.vars s 3=0) (a:Option Addr) (c0:Nat) (w:World) (hs:rowSits S w [x] a) (h:StoreAt ρ κ w sb st) :
 Calls prog 160 #[.pointer (some ⟨sb,0,none⟩),.agg #[.int .u8 k,.int .i64 0,str s,.slice a 1 c0]] w (StR ρ sb (st.exec k s [x]).2 (st.exec k s [x]).1 w):=by
 obtain ⟨i,c,hi,hc,an,aj,a1,yk,a2,bd⟩:=ID hw au az
 have e:st.exec k s [x]=if (Bi st.look x).2≠0 then ((Bi st.look x).2,st) else if (Bi st.look x).1<0\/((st.items c).length:Int)<=(Bi st.look x).1 then (12,st) else if k=44\/k=45 then st.move k c (Bi st.look x).1.toNat (st.cellD s) else st.transfer k c (Bi st.look x).1.toNat:=by
  unfold Stp.exec
  simp only [List.getD_cons_zero,As (show ¬k=43 by omega),As (show ¬(40<=k/\k<=42) by omega),an]
  simp
 rw [e];clear e;have Y:=E9 h;have HX:=bU (fun xa xc w1 h1 h2=>JW A9 (Fm (sb:=sb) (ρ:=ρ) (κ:=κ) hw hm) x ay au (· < w.heap.size) xa xc w1 h1 h2);have HC:=bU (fun w1 h=>Md (ρ:=ρ) (κ:=κ) (sb:=sb) hw hm x.name hi w1 h);rw [an] at HC;obtain ⟨kb,ko,xa,xc,rfl,-,M,hx⟩:=Vx hs;replace hx:=BZ _ _ hx;obtain ⟨a3,vi,G,ao⟩:=h.cells _ _ (E6 a1);obtain ⟨ai,ci,rfl⟩:=ao.1.shape;have br:=hw.look_le aj
 have av:=fun hn=>JX a3 G ao hn
 have X:=eU w;clear h hs ao;obtain ⟨xk,xn,xs,xl⟩:=x;simp only [fQ] at HC hi an aj;replace M:Row w ⟨kb,ko+0*4,none⟩ [.int .u8 xk,.int .i64 xn,str xs,.slice xa xl.length xc]:=M
 generalize hA:Bi st.look (.mk xk xn xs xl)=A at *
 generalize hn:(st.items c).length=n at *
 refine Ac func160 ntmps160 rfl rfl ?_
 focus
  refine cS ?_;refine eB [_,_,_,_] ?_;intro b1 w2 N x5 p6 z7;revert Y X hx M G;refine eE x5 ?_;intro Y X hx M G;clear x5;refine C1 Pa (cN (C1 Pf (C1 (Pl N) (C1 Pi (Ce [_,_,_,_] Ad rfl rfl rfl M rfl rfl rfl (C1 Mv (C1 (EY rfl rfl) ?_)))))));refine cC rfl (HX.out _ _ _ Ae Ae) ?_;rintro _ w9 ⟨⟨⟩,x8⟩;have bs:=x8.size;revert N Y X hx M G;refine eE x8 ?_;intro N Y X hx M G;clear x8;refine C1 Mv (C1 Px (C1 Px (C1 Pa (C1 Pa (cT (Ai (cS (C1 Mv (C1 V2 (cT ?_))))))))));refine BU rfl (fun a4=>?_) (fun a4=>?_);refine cS (C1 Mv (C1 Pa (cT (AN (Ao (AM rfl rfl ?_))))));rotate_left;refine Am (Ag (cS (C1 Pa (cT (Ai (cS (C1 Pg (C1 (Pl N) (cT (Av (cS ?_)))))))))));refine C1 V1 (C1 Pa (cT (Ds (Ai (cS (C1 V1 (C1 Pa (cT (Ds (cS (C1 V1 ?_)))))))))));refine C1 Pa (cT (Ds (Aj (C1 V1 (C1 Pa (cT (Ds (Am (Af (Ag (Ai ?_)))))))))));refine cS (C1 Mv (C1 V2 (cT (Ds (Am (Ag (cS (C1 Mv (C1 Pf (C1 (Pl N) (C1 Pi ?_)))))))))));refine C1 Pf (C1 (Pw M) ?_);refine cC rfl (HC.out _ (Keep.h Ae)) ?_;rintro _ ak ⟨⟨⟩,ap⟩;have bt:=ap.size;revert N Y X hx M G;refine eE ap ?_;intro N Y X hx M G;clear ap;refine C1 Pn (C1 Pg (C1 (Pl G) (C1 Pa (cT (Ai ?_)))));rotate_left
 . rw [AG Ae]
   exact gA Y.h X
 rw [As (fun h=>h Ae)]
 by_cases aa:A.1<0\/(n:Int)<=A.1
 . rw [AG aa];clear av
   focus
    refine cS (C1 Mv (C1 V3 (C1 Mv ?_)));refine C6 rfl rfl rfl (fun a5=>?_) (fun a5=>?_);refine Gb (Gb (Gb (Gb (C1 Rw (cT (Cb rfl (cS (C1 Pa (cT (AN (Ao ?_)))))))))));refine AM rfl rfl ?_;rotate_left;refine Ga (C1 Mv (Ga (C1 Mv (Ga (C1 Pz (Ga (C1 V6 (C1 Rk (cT (Vf (cS ?_)))))))))));refine C1 Pa (cT (AN (Ao (AM rfl rfl ?_))));rotate_left
   . exact gA Y.h X
   . exact gA Y.h X
 rw [As aa];obtain ⟨g,rfl,U⟩:=av Ab;replace U:=U.ext X
 have ac:A.1.toNat<(st.items c).length:=by omega
 by_cases al:k=44\/k=45
 . rw [AG al];obtain ⟨i2,d,yd,e1,e2,e3,e4,e5,e6,e7,e8⟩:=hw.use (a0 al)
   have aw:c≠d:=by
    rintro rfl;rw [a2] at e6;obtain rfl:=cD e6
    omega
   have a6:(st.items d).length<=1000:=by rcases e8 with ⟨h,-⟩|⟨h,-⟩|⟨-,h⟩<;>omega
   have HD:=bU (fun w1 h=>Md (ρ:=ρ) (κ:=κ) (sb:=sb) hw hm s e1 w1 h);rw [e3] at HD ⊢;have HM:=bU (fun w1 h U=>Zn (ρ:=ρ) (κ:=κ) (sb:=sb) (g:=g) (n:=n) (cap:=ci) hw e5 aw a6 ac k al w1 h U);have F:Fr (fun k=>LU (ρ k)) w _:=fE X;clear hx M e4 e6 e7 e8 e1 e2 aj X
   generalize st.move k c A.1.toNat d=r at *
   focus
    refine cS (C1 Mv (C1 V3 (C1 Mv (EB (C1 Mv (EB (C1 Mv (EB (C1 Pz (EB (C1 V6 ?_)))))))))));refine C1 Jq (cT (Ds (Am (Ag (cS (C1 Mv (C1 Mv (C1 Pi (C1 Pa (cT (Ai ?_)))))))))));refine cS (C1 Pg (C1 (Pl N) (cT (Av (Ai (cS (C1 V1 (C1 Pa (cT (Ds (cS ?_)))))))))));refine C1 V1 (C1 Pa (cT (Ds (Aj (C1 V1 (C1 Pa (cT (Ds (cS (C1 V1 (C1 Pa ?_)))))))))));refine cT (Ds (Ai (cS (C1 V1 (C1 Pa (cT ?_))))));refine Ay rfl (fun a7=>?_) (fun a7=>?_);refine Am (Ag (Ph (Ai ?_)));refine Ar (fun wz=>Ext ak wz) 7 (.pure 0 (.pure 1 (.pure 2 (.pure 3 (.pure 4 (.pure 5 (.fork 6 .tail .none))))))) mixed A9 (Aa (Al (Aa Ah))) ?_;intro a8 am _;have V:(fun wz=>Ext ak wz) a8:=am;simp only at V;have O:=N;have ad:=Y;have Z:=G;have ae:=U;have bu:=am.size;revert N Y G U F;refine eE am ?_;intro N Y G U F;clear am;refine ⟨V,?_⟩;refine Tq rfl Pg (Tq rfl (Db O) (Tq rfl Mv (Tq rfl Mv (Tq rfl Pf (Tq rfl (Db O) ?_)))));refine Ax rfl (AU A9 rfl (HD.out _ (Keep.h Ae)) (fun _ _ h=>⟨_,h.1⟩)) rfl ?_ aFh Aw;rintro _ bv ⟨⟨⟩,aq⟩;have bw:=aq.size;revert V N Y G U F;refine eE aq ?_;intro V N Y G U F;clear aq;refine ⟨V,?_⟩;clear O ad Z ae V;refine At rfl ?_;refine eQ rfl (HM.out _ (Keep.h Ae) Ae) ?_
    rintro _ be ⟨a9,⟨ba,⟨⟨⟩,⟨bf,⟨bg,af⟩⟩⟩⟩⟩;have bh:=af.size;clear N G U;replace F:=fJ F af (fun k hk=>bW hk);clear af;refine C1 Pa (cT (AN (AH (Ao (AM rfl rfl ?_)))));rotate_left;refine Aj (C1 V1 (C1 Pa (cT (Vf (Ai ?_)))));refine Ar (fun wz=>Ext ak wz) 7 (.pure 0 (.pure 1 (.pure 2 (.pure 3 (.pure 4 (.pure 5 (.fork 6 .tail .none))))))) mixed A9 (Aa (Al (Aa Ah))) ?_;intro ax ab _;have L:(fun wz=>Ext ak wz) ax:=ab;simp only at L;have O:=N;have ad:=Y;have Z:=G;have ae:=U;have bi:=ab.size;revert N Y G U F;refine eE ab ?_;intro N Y G U F;clear ab;refine ⟨L,?_⟩;refine Tq rfl Pg (Tq rfl (Db O) (Tq rfl Mv (Tq rfl Mv (Tq rfl Pf (Tq rfl (Db O) ?_)))));refine Ax rfl (AU A9 rfl (HD.out _ (Keep.h Ae)) (fun _ _ h=>⟨_,h.1⟩)) rfl ?_ aFh Aw;rintro _ bj ⟨⟨⟩,ag⟩;have bk:=ag.size;revert L N Y G U F;refine eE ag ?_;intro L N Y G U F;clear ag;refine ⟨L,?_⟩;clear O ad Z ae L;refine At rfl ?_;refine eQ rfl (HM.out _ (Keep.h Ae) Ae) ?_;rintro _ bl ⟨bb,⟨bc,⟨⟨⟩,⟨bm,⟨bn,ah⟩⟩⟩⟩⟩;have bo:=ah.size;clear N G U;replace F:=fJ F ah (fun k hk=>bW hk);clear ah;refine C1 Pa (cT (AN (AH (Ao (AM rfl rfl ?_)))))
    rotate_left
   . exact ⟨_,_,rfl,Ro.low Ae Ab,Ae,F⟩
   . exact ⟨_,_,rfl,Ro.low Ae Ab,Ae,F⟩
 . rw [As al]
   have HT : ∀w1,StoreAt ρ κ w1 sb st->PlaceAt ρ κ w1 c g n ci (st.items c)->Calls prog 174 #[.pointer (some ⟨sb,0,none⟩),.int .u8 k,.pointer (some ⟨g,0+A.1.toNat*1,none⟩)] w1 (StR ρ sb (st.transfer k c A.1.toNat).2 (st.transfer k c A.1.toNat).1 w1):=fun w1 h U=>by
    rcases (show k=46\/k=47\/k=48\/k=49 by omega) with rfl|rfl|rfl|rfl
    . exact VW ac w1 h U
    . exact VY ac w1 h U
    . exact VZ ac w1 h U
    . exact VX ac w1 h U
   replace HT:=bU HT;have F:Fr (fun k=>LU (ρ k)) w _:=fE X;clear hx M aj X
   generalize st.transfer k c A.1.toNat=r at *
   refine cS (C1 Mv (C1 V3 (C1 Mv (EB (C1 Mv (EB (C1 Mv (EB (C1 Pz (EB (C1 V6 ?_)))))))))));refine C1 Jq (cT (Ds (Am (Ag (cS (C1 Mv (C1 Mv (C1 Pi (C1 Pa (cT (Ai ?_)))))))))));refine cS (C1 Pg (C1 (Pl N) (cT (Av (Ai (cS (C1 V1 (C1 Pa (cT (Ds (cS ?_)))))))))));refine C1 V1 (C1 Pa (cT (Ds (Aj (C1 V1 (C1 Pa (cT (Ds (cS (C1 V1 (C1 Pa ?_)))))))))));refine cT (Ds (Ai (cS (C1 V1 (C1 Pa (cT (Ds (Aj (C1 V1 (C1 Pa (cT ?_)))))))))));refine Ds (Am (Af (Ag (cS (C1 Mv (C1 Pg (C1 (Pl N) (C1 Mv ?_))))))));refine eQ rfl (HT.out _ (Keep.h Ae) Ae) ?_;rintro _ bx ⟨bp,⟨bq,⟨⟨⟩,⟨bz,⟨b0,ar⟩⟩⟩⟩⟩;have b2:=ar.size;clear N G U;replace F:=fJ F ar (fun k hk=>bW hk);clear ar;refine C1 Pa (cT (AN (AM rfl rfl ?_)))
   exact ⟨_,_,rfl,Ro.low Ae Ab,Ae,F⟩
end
section
variable {ρ ρ':Nat->Rl} {κ:Nat->Nat} {K:List (Int×Int)} {m sb:Nat} {st st':Stp} {w w' w1:wD} {S:nP}
def R4 {k:Int} (h:40<=k/\k<=49):40<=Bd k/\Bd k<=49:=by
 unfold Bd;rcases (show k=40\/k=41\/k=42\/k=43\/k=44\/k=45\/k=46\/k=47\/k=48\/k=49 by omega) with rfl|rfl|rfl|rfl|rfl|rfl|rfl|rfl|rfl|rfl<;>decide
def Uz {k n:Int} {s:lB} {l:List Nd} (F:40<=k/\k<=49) (h:(Nd.mk k n s l).isStmt=true):(Nd.mk (Bd k) n s l).isStmt=true:=by
 unfold Nd.isStmt at h ⊢;rcases (show k=40\/k=41\/k=42\/k=43\/k=44\/k=45\/k=46\/k=47\/k=48\/k=49 by omega) with rfl|rfl|rfl|rfl|rfl|rfl|rfl|rfl|rfl|rfl<;>simpa [Bd] using h
def Zp (U:st.WF K m) (V:m<=1000000) {k n:Int} {s:lB} {l:List Nd} (hk:40<=k/\k<=49) (Y:(Nd.mk k n s l).isStmt=true) (Z:(Nd.mk k n s l).wf) (hb:(Nd.mk k n s l).bad st.cur.vars=0) (a:oA) (c0:Nat) (w:wD) (X:rowSits S w l a) (h:StoreAt ρ κ w sb st) :
 Calls prog 160 #[.pointer (some ⟨sb,0,none⟩),.agg #[.int .u8 k,.int .i64 n,str s,.slice a l.length c0]] w (StR ρ sb (st.exec k s l).2 (st.exec k s l).1 w):=by
 have N:=JQ hb;obtain ⟨-,-,-,-,-,-,G⟩:=Z;cases BT Y with
 | upd O L hy=>
  obtain ⟨F,M,-⟩:=G;exact X6 U V Ab L hy F M (Cu N.2).1 a c0 w X h
 | swap L hy=>
  obtain ⟨F,M,-⟩:=G;exact X8 U V L hy F M (Cu N.2).1 (Cu (Cu N.2).2).1 a c0 w X h
 | stack O hn L=>
  obtain ⟨F,-⟩:=G;exact S1 U V Ab L F (Cu N.2).1 (fun _=>by
   have:=N.1;have e:CS k=3:=by unfold CS;rcases O with rfl|rfl<;>decide
   rw [e] at this;exact this AY) a c0 w X h
 | tape O L=>
  obtain ⟨F,-⟩:=G;exact S1 U V Ab L F (Cu N.2).1 (fun h=>by omega) a c0 w X h
 | call O=>omega
 | branch O=>omega
 | local_=>omega
 | lstack=>omega
def Z0 (hw:st.WF K m) (hm:m<=1000000) {k n:Int} {s:lB} {l:List Nd} (hk:(40<=k/\k<=49)\/k=56) (ab:(Nd.mk k n s l).isStmt=true) (ac:(Nd.mk k n s l).wf) (hz:(Nd.mk k n s l).size<=1000000) (a:oA) (c0:Nat) (w:wD) (hs:rowSits S w l a) (h:StoreAt ρ κ w sb st) :
 Calls prog 135 #[.pointer (some ⟨sb,0,none⟩),.agg #[.int .u8 k,.int .i64 n,str s,.slice a l.length c0]] w (StR ρ sb (st.run1 k n s l).2 (st.run1 k n s l).1 w):=by
 have Z:=PR (· < w.heap.size) (.mk k n s l) ac;unfold Et at Z;rw [ab] at Z;have Z:=bU (fun w1 hs=>Z a c0 w1 hs);simp only [Nd.val,fT] at Z;have L:=BV _ _ hs;have X:=eU w;have O:=E9 h;have az:=hw.nc;have a0:=hw.curm;rcases hk with hk|rfl
 . have e:st.run1 k n s l=if (Nd.mk k n s l).bad st.cur.vars≠0 then ((Nd.mk k n s l).bad st.cur.vars,st) else st.exec k s l:=by unfold Stp.run1;rw [As Ab]
   rw [e];clear e;obtain ⟨fb,fo,pre,post,T,vv,vc,N,-,Y,hf,-⟩:=h.open;obtain ⟨av,cv,rfl,M⟩:=Hj (S:=fun _=>True) hf.v.1 (fun _ _=>trivial);have G:=Y.blk;have HC:=bU (fun w1 h=>E5 fb fo st.calls.length sb Ab w1 h);have HF:=bU (fun w1 h1 h2 h3=>XS st.cur.vars Ab av cv vc (.int .i64 st.cur.locals) fb fo _ (.mk k n s l) (· < w.heap.size) (fun _=>True) a c0 w1 (Nat.lt_succ_self _) Ab h1 h2 h3);simp only [Nd.val,fT] at HF;have HX:(Nd.mk k n s l).bad st.cur.vars=0 -> ∀w1,rowSits (· < w.heap.size) w1 l a->StoreAt ρ κ w1 sb st->Calls prog 160 #[.pointer (some ⟨sb,0,none⟩),.agg #[.int .u8 k,.int .i64 n,str s,.slice a l.length c0]] w1 (StR ρ sb (st.exec k s l).2 (st.exec k s l).1 w1):=fun hb w1 h1 h2=>Zp hw hm hk ab ac hb a c0 w1 h1 h2
   have HX:=bU HX;have HB:=bU (fun w1=>XT k hk w1);have F:Fr (fun k=>LU (ρ k)) w w:=fC _ w;clear h hf Y hs;generalize (Nd.mk k n s l).bad st.cur.vars=bd at *;generalize st.exec k s l=r at *;generalize st.cur.vars=vs at *;refine Ac func135 ntmps135 rfl rfl ?_
   focus
    refine cS (eB [_,_,_,_] ?_);intro b1 w2 V x5 p6 z7;revert L X O N F M G;refine eE x5 ?_;intro L X O N F M G;refine eK ?_;refine C1 (A2 Ad rfl rfl) ?_;refine eK ?_;refine cC rfl (Z.out _ Ae) ?_;rintro _ w9 ⟨⟨⟩,x8⟩;revert V L X O N F M G;refine eY x8 ?_;intro a1 V L X O N F M G;refine eK ?_;refine cC rfl (HB.out _) ?_;rintro _ ad ⟨⟨⟩,ai⟩;revert V L X O N F M G;refine eY ai ?_;intro a2 V L X O N F M G;refine eK ?_;refine Ar (fun wz=>Ext ad wz) 3 (.pure 0 (.pure 2 (.fork 1 .tail .none))) mixed A9 (Aa (Aa Ah)) ?_;intro aj ae _;have U:(fun wz=>Ext ad wz) aj:=ae;simp only at U;have af:=V;have ak:=L;have au:=O;have al:=N;have am:=M;have ah:=G;revert V L X O N F M G;refine eY ae ?_;intro a3 V L X O N F M G;refine ⟨U,?_⟩;refine Tq rfl Mv (Tq rfl (xL [_,_,_,_] (fun wz hz=>(fH af hz))) ?_);refine tC rfl rfl (HC.out _ Ae) ?_;rintro _ a4 ⟨⟨⟩,an⟩;revert U V L X O N F M G;refine eY an ?_;intro z21 U V L X O N F M G;refine ⟨U,?_⟩;refine At rfl (cC rfl (HF.out _ Ae Ae Ae) ?_);rintro _ a5 ⟨⟨⟩,ao⟩;revert V L X O N F M G;refine eY ao ?_;intro a6 V L X O N F M G;refine eK ?_;refine BU rfl (fun ap=>?_) (fun ap=>?_);refine eK ?_;refine xR ?_;rotate_left;refine eK ?_;refine eQ rfl (HX.out Ae _ Ae (Keep.h Ae)) ?_;rintro _ a7 ⟨aw,⟨ax,⟨⟨⟩,⟨a8,⟨a9,aa⟩⟩⟩⟩⟩;have ba:=aa.size;have F:=fJ F aa (fun k hk=>bW hk);clear M G aa;refine eK ?_;refine xR ?_;rotate_left
   . rw [AG Ae];exact gA O.h X
   . rw [As (fun h=>h Ae)];exact ⟨_,_,rfl,Ro.low Ae Ab,Ae,F⟩
 . have e:st.run1 56 n s l=(9,st):=by unfold Stp.run1;rw [AG rfl]
   rw [e];clear hs;refine Ac func135 ntmps135 rfl rfl ?_;refine cS (eB [_,_,_,_] ?_);intro bb bc ag aq be bf;revert h L X O;refine eE aq ?_;intro h L X O;refine eK ?_;refine C1 (A2 Ad rfl rfl) ?_;refine eK ?_;refine cC rfl (Z.out _ Ae) ?_;rintro _ bg ⟨⟨⟩,ar⟩;revert ag h L X O;refine eY ar ?_;intro ay ag h L X O;refine eK ?_;refine xR ?_;exact gA Ae X
def Zq (hw:st.WF K m) (hm:m<=1000000) {k n:Int} {s:lB} {l:List Nd} (L:(40<=k/\k<=49)\/k=56) (N:(Nd.mk k n s l).isStmt=true) (Y:(Nd.mk k n s l).wf) (hz:(Nd.mk k n s l).size<=1000000) (a:oA) (c0:Nat) (w:wD) (hs:rowSits S w l a) (h:StoreAt ρ κ w sb st) :
 Calls prog 134 #[.pointer (some ⟨sb,0,none⟩),.agg #[.int .u8 k,.int .i64 n,str s,.slice a l.length c0]] w (StR ρ sb (st.run1 (Bd k) n s l).2 (st.run1 (Bd k) n s l).1 w):=by
 have G:=BV _ _ hs;have HI:=bU (Ur k Ab);have Z:(40<=Bd k/\Bd k<=49)\/Bd k=56:=by
  rcases L with h|rfl
  . exact bW (R4 h)
  . exact bX rfl
 have O:(Nd.mk (Bd k) n s l).isStmt=true:=by
  rcases L with h|rfl
  . exact Uz h N
  . exact N
 have U:(Nd.mk (Bd k) n s l).wf:=by
  obtain ⟨-,-,h1⟩:=Y;exact ⟨Ab,Ab,h1⟩
 have HD:=bU (fun w1 h1 h2=>Z0 (ρ:=ρ) (κ:=κ) (sb:=sb) hw hm Z O U hz a c0 w1 (S:=(· < w.heap.size)) h1 h2);have M:=h.fresh;have hn : ∀k,w.heap.size<=k -> ¬LU (ρ k):=fun k L e=>by rw [M k L] at e;exact e
 have ad:=bU M;have F:Fr (fun k=>LU (ρ k)) w w:=fC _ w;generalize st.run1 (Bd k) n s l=r at *;generalize Bd k=k2 at *;clear hs M;refine Ac func134 ntmps134 rfl rfl ?_;refine cS (eB [_,_,_,_] ?_);intro b1 w2 h4 x5 p6 z7;revert h G F;refine eE x5 ?_;intro h G F;refine eK ?_;refine cC rfl (HI.out _) ?_;rintro _ w9 ⟨⟨⟩,x8⟩;revert h4 h G F;refine eY x8 ?_;intro ae h4 h G F;refine C1 Pg (eV [_] [_,_,_,_] h4 ?_);intro af aa V ag;have h:=StoreAt.fr h V (fun k L=>hn k (by have:k=_:=L;omega));revert G F;refine eF V ?_;intro G F;refine eK ?_;refine eQ rfl (HD.out _ Ae Ae) ?_;rintro _ ah ⟨ab,⟨ac,⟨⟨⟩,⟨ai,⟨aj,X⟩⟩⟩⟩⟩;have z22:=X.size;clear aa h G;have F:=fJ F X (fun k L=>bW L);refine eK ?_;refine xR ?_;exact ⟨_,_,rfl,Ro.low Ae Ab,Ae,F⟩
end
def YT (S:nP) (w:wD) (b o:Nat) (p:PD):Prop:= ∃pa pc ba bc,Row w ⟨b,o,none⟩ (p.cells pa pc ba bc)/\VDs S w p.params pa/\p.body.sits S w ba/\p.params.length<=pc
def PDsC (S:nP) (w:wD) (l:List PD) (a:oA):Prop:=Arr S 6 (YT S) w l a
def PDsC.pds {S:nP} {w:wD} {l:List PD} {a:oA} (h:PDsC S w l a):PDs S w l a:=h.mono aFh (fun _ _ _ _ _ ⟨F,pc,ba,bc,h1,h2,h3,_⟩=>⟨F,pc,ba,bc,h1,h2,h3⟩)
def PDsC.ext {S:nP} {w w':wD} {l:List PD} {a:oA} (h:PDsC S w l a) (x:Ext w w'):PDsC S w' l a:=
 h.mono aFh (fun _ _ _ _ _ ⟨F,pc,ba,bc,h1,h2,h3,h4⟩=>⟨F,pc,ba,bc,h1.ext x,h2.ext x,h3.ext x,h4⟩)
instance {S:nP} {w w':wD} {l:List PD} {a:oA}:LfE w w' (PDsC S w l a) (PDsC S w' l a):=⟨fun x h=>Bk.PDsC.ext h x⟩
def PDsC.fr {S T:nP} {w w':wD} {l:List PD} {a:oA} (h:PDsC S w l a) (x:Fr T w w') (F : ∀b,S b -> ¬T b):PDsC S w' l a:=
 h.mono aFh (fun b _ _ _ G ⟨L,pc,ba,bc,h1,h2,h3,h4⟩=>⟨L,pc,ba,bc,h1.fr x (F b G),h2.fr x F,h3.fr x F,h4⟩)
instance {S T:nP} {w w':wD} {l:List PD} {a:oA}:LfF T w w' (PDsC S w l a) (∀b,S b -> ¬T b) (PDsC S w' l a):=⟨fun x s h=>Bk.PDsC.fr h x s⟩
def PDsC.get {S:nP} {w:wD} {l:List PD} {a:oA} (h:PDsC S w l a) (F:l≠[]) : ∃b o,a=some ⟨b,o,none⟩/\S b /\ ∀i p,l[i]? = some p->YT S w b (o+i*6) p:=by
 rcases h with h|⟨b,o,G,L,M⟩
 . exact absurd h F
 . exact ⟨b,o,G,L,fun i v N=>M i v N⟩
def PDsC.ltA {S:nP} {w:wD} {l:List PD} {a:oA} (h:PDsC S w l a):PDsC (· < w.heap.size) w l a:=by
 rcases h with h|⟨b,o,O,h2,F⟩
 . exact bW h
 . cases l with
   | nil=>exact bW rfl
   | cons p r=>
    obtain ⟨G,L,M,N,U,-⟩:=F 0 p rfl;refine bX ⟨b,o,O,Co (U.at0 rfl),fun i v V=>?_⟩;obtain ⟨G,L,M,N,k1,X,Y,Z⟩:=F i v V;exact ⟨G,L,M,N,k1,X.lt2.wide (fun _ h=>h.2),BZ _ _ Y,Z⟩
def Ii:Shape PD where
 sz:=6
 rep:=fun w S p cs=> ∃pa pc ba bc,cs=p.cells pa pc ba bc/\VDs S w p.params pa/\p.body.sits S w ba/\p.params.length<=pc
 len:=fun ⟨_,_,_,_,h,_⟩=>by rw [h];rfl
 one:=fun ⟨_,_,_,_,h,_⟩=>by rw [h];rfl
 mono:=fun ⟨pa,pc,ba,bc,h,h1,h2,h3⟩ hS hc=>⟨pa,pc,ba,bc,h,h1.move hS hc,Nd.sits_mono hS hc _ ba h2,h3⟩
 lt:=fun ⟨pa,pc,ba,bc,h,h1,h2,h3⟩=>⟨pa,pc,ba,bc,h,h1.lt2,GI _ ba h2,h3⟩
def PDsC.wide {S S':nP} {w:wD} {l:List PD} {a:oA} (h:PDsC S w l a) (F : ∀b,S b->S' b):PDsC S' w l a:=
 h.mono F (fun _ _ _ _ _ ⟨G,pc,ba,bc,h1,h2,h3,h4⟩=>⟨G,pc,ba,bc,h1,h2.wide F,eX h3 F,h4⟩)
def OwnL.pdsC {w:wD} {B e:Nat} {a:oA} {len cap:Nat} {xs:List PD} {S:nP} (h:OwnL Ii w B e (.slice a len cap) xs) (G : ∀b,B<=b->S b):PDsC S w xs a:=by
 by_cases M:xs=[]
 . exact bW M
 . obtain ⟨g,N,O,U,F⟩:=h.rows M;simp only [dI] at O;obtain ⟨rfl,-,-⟩:=O;refine bX ⟨g,0,rfl,G g U,fun i x V=>?_⟩;obtain ⟨cs,X,Y,Z,ba,bc,rfl,h1,h2,h3⟩:=F i x V;exact ⟨Y,Z,ba,bc,by simpa [Ii] using X,h1.wide (fun b L=>G b L.1),h2.wide (fun b L=>G b L.1),h3⟩
section
variable {P:Program} {n:Nat} {l:Sl} {w:wD} {ty:TypeId} {Q:Exit->Act->wD->Prop} {ops:Array Oper} {rest:List Oper} {pos:String} {after:Array Edge} {B:List PanicEntry->wD->Prop}
def Mn {f:FuncId} {xs:List Operand} {tys:Array TypeId} {vs:lV} {d:Option Nat} (N:CO P f=true) (F:evs l xs=some vs) (C:Calls P f vs.toArray w (TC (fun _ _=>False) B)) (G : ∀c w1,B c w1->QW n Q (.panic c) l w1) :
 LW P n ops Q (⟨d,.call ⟨.value (.func f),xs.toArray,tys⟩,ty,pos,after,none⟩::rest) l w:=by
 unfold LW;unfold QW at G;intro a L;unfold wpList;rw [AG (Bo rfl)];left;have M:=AK (n:=n) (tys:=tys) (ty:=ty) N F C (fun _ _ h=>h.elim);unfold Nq at M;exact M a _ _ _ _ _ _ L (fun v w1 h=>h.elim) (fun c w1 h=>G c w1 h a L)
end
def Mo {P:Program} {n:Nat} {l:Sl} {S:wD->Prop} {tab:Tab} {t t' ty sz:Nat} {x y:Operand} {p q:Bool} (T:TabOk P tab) (F:Az tab t=some (.bool,sz)) (G:ev l x=some (.bool p)) (L:ev l y=some (.bool q)):BB P n l S (.binOp .neq t x y t') ty (.bool (decide (p≠q))):=by
 unfold BB;intro _ w M pos after g h _;have N:(eqGuard .neq t x y (.bool p) (.bool q)).run P w = .ok () w:=by unfold eqGuard;simp
 have O:P.underlying t=some .bool:=(T _ _ _ F).under;have U:(Op.equal t (.bool p) (.bool q)).run P w = .ok (p==q) w:=by
  show (Op.equalIn (9999+1) t (.bool p) (.bool q)).run P w=_;unfold Op.equalIn;simp [AF O,cG]
 simp [execOp,h.ev G,h.ev L,N,U,binOp];cases p<;>cases q<;>rfl
def Mp (e:Int):List PanicEntry:=[{ v:=.iface 156 (.agg #[.int .i64 e]),recovered:=false }]
structure RC where
 rb:Nat
 sb:Nat
 eb:Nat
 ec:Nat
 g:PG
 va:oA
 vc:Nat
 pa:oA
 pc:Nat
 ma:oA
 mc:Nat
 fuel:Nat
 S:nP
def Z3 (r:Rl):Prop:=LU r\/r = .other 0\/r = .other 1
structure RunAt (c:RC) (P:nP) (ρ:Nat->Rl) (κ:Nat->Nat) (w:wD) (r:Rn):Prop where
 role:ρ c.rb = .other 0
 rolE:ρ c.eb = .other 1
 rem:r.rem<=c.fuel
 blk:Blk w c.rb [.slice c.va c.g.vars.length c.vc,.slice c.pa c.g.procs.length c.pc,.int .u8 c.g.main.kind,.int .i64 c.g.main.num,str c.g.main.name,.slice c.ma c.g.main.kids.length c.mc,.pointer (some ⟨c.sb,0,none⟩),.int .i64 ((c.fuel:Int)-r.rem),.int .i64 c.fuel,.slice (some ⟨c.eb,0,none⟩) c.g.procs.length c.ec]
 ent : ∃es:List Int,es.length=c.g.procs.length/\Blk w c.eb (ints es)
 st:StoreAt ρ κ w c.sb r.st
 wf : ∃K,r.st.WF K (1000+(c.fuel-r.rem))
 procs:PDs c.S w c.g.procs c.pa
 sub : ∀k,c.S k->P k
 off : ∀k,P k -> ¬Z3 (ρ k)/\k<w.heap.size
section
variable {c:RC} {P P':nP} {ρ ρ':Nat->Rl} {κ κ':Nat->Nat} {w w':wD} {r:Rn} {T:nP}
def PDs.frS {S:nP} {l:List PD} {a:oA} (h:PDs S w l a) (x:Fr T w w') (F : ∀b,S b -> ¬T b):PDs S w' l a:=
 h.mono aFh (fun b _ _ _ G ⟨L,pc,ba,bc,h1,h2,h3⟩=>⟨L,pc,ba,bc,h1.fr x (F b G),h2.fr x F,eW h3 x F⟩)
def RunAt.ext (h:RunAt c P ρ κ w r) (x:Ext w w'):RunAt c P ρ κ w' r:=by
 obtain ⟨M,N,O,U,⟨es,V,X⟩,Y,Z,h9,G,F⟩:=h;have hs:=x.size;exact ⟨M,N,O,U.ext x,⟨es,V,X.ext x⟩,Y.ext x,Z,h9.ext x,G,fun k L=>⟨(F k L).1,by have:=(F k L).2;omega⟩⟩
instance  : LfE w w' (RunAt c P ρ κ w r) (RunAt c P ρ κ w' r):=⟨fun x h=>Bk.RunAt.ext h x⟩
def Run (c:RC) (P:nP) (w:wD) (r:Rn):Prop:= ∃ ρ κ,RunAt c P ρ κ w r
def Run.ext (h:Run c P w r) (x:Ext w w'):Run c P w' r:=h.imp fun _ ⟨κ,h⟩=>⟨κ,h.ext x⟩
instance  : LfE w w' (Run c P w r) (Run c P w' r):=⟨fun x h=>Bk.Run.ext h x⟩
def Run.blk (h:Run c P w r):Blk w c.rb [.slice c.va c.g.vars.length c.vc,.slice c.pa c.g.procs.length c.pc,.int .u8 c.g.main.kind,.int .i64 c.g.main.num,str c.g.main.name,.slice c.ma c.g.main.kids.length c.mc,.pointer (some ⟨c.sb,0,none⟩),.int .i64 ((c.fuel:Int)-r.rem),.int .i64 c.fuel,.slice (some ⟨c.eb,0,none⟩) c.g.procs.length c.ec]:=by
 obtain ⟨_,_,h⟩:=h;exact h.blk
def Run.rem (h:Run c P w r):r.rem<=c.fuel:=by
 obtain ⟨_,_,h⟩:=h;exact h.rem
def Ci (P:nP) (w w':wD):nP:=fun k=>P k\/(w.heap.size<=k/\k<w'.heap.size)
def Run.more (h:Run c P w r) (x:Ext w w'):Run c (Ci P w w') w' r:=by
 obtain ⟨ρ,κ,h⟩:=h;have hs:=x.size;obtain ⟨M,N,O,U,V,X,Y,Z,h9,G⟩:=h.ext x;refine ⟨ρ,κ,M,N,O,U,V,X,Y,Z,fun k F=>bW (h9 k F),fun k F=>?_⟩;rcases F with F|⟨F,L⟩
 . exact G k F
 . refine ⟨fun e=>?_,L⟩;rw [h.st.fresh k F] at e;rcases e with e|e|e
   . exact e
   . cases e
   . cases e
def Run.less (h:Run c P' w r) (G : ∀k,c.S k->P k) (L : ∀k,P k->P' k):Run c P w r:=by
 obtain ⟨ρ,κ,M,N,O,U,V,X,Y,Z,h9,F⟩:=h;exact ⟨ρ,κ,M,N,O,U,V,X,Y,Z,G,fun k hk=>F k (L k hk)⟩
def Run.sub (h:Run c P w r) : ∀k,c.S k->P k:=by
 obtain ⟨_,_,h⟩:=h;exact h.sub
def RunA (c:RC) (P:nP) (X:Except Int Rn) (w:wD):Ending->wD->Prop:=fun e w'=> ∃r,e = .returned (.tuple #[])/\X = .ok r/\Run c P w' r/\Fr (fun k=> ¬P k) w w'
def RunA.ret {X:Except Int Rn} {e:Ending} (h:RunA c P X w e w') : ∃v,e = .returned v:=by
 obtain ⟨_,h,-⟩:=h;exact ⟨_,h⟩
def QA {α:Type} (P:nP) (X:Except Int α) (w:wD) (ch:List PanicEntry) (w':wD):Prop:= ∃er,X = .error er/\ch=Mp er/\Fr (fun k=> ¬P k) w w'
def D0 (c:RC) (P:nP) (X:Except Int Rn) (w:wD):Ending->wD->Prop:=TC (RunA c P X w) (QA P X w)
def ValA (c:RC) (P:nP) (X:Except Int (Bool×Rn)) (w:wD):Ending->wD->Prop:=fun e w'=> ∃u r,e = .returned (.bool u)/\X = .ok (u,r)/\Run c P w' r/\Fr (fun k=> ¬P k) w w'
def ValA.ret {X:Except Int (Bool×Rn)} {e:Ending} (h:ValA c P X w e w') : ∃v,e = .returned v:=by
 obtain ⟨_,_,h,-⟩:=h;exact ⟨_,h⟩
def Ya (c:RC) (P:nP) (X:Except Int (Bool×Rn)) (w:wD):Ending->wD->Prop:=TC (ValA c P X w) (QA P X w)
def ExpA (X:Except Int Int) (w:wD):Ending->wD->Prop:=fun e w'=> ∃v,e = .returned (.int .i64 v)/\X = .ok v/\Ext w w'
def ExpA.ret {X:Except Int Int} {e:Ending} (h:ExpA X w e w') : ∃v,e = .returned v:=by
 obtain ⟨_,h,-⟩:=h;exact ⟨_,h⟩
def Z4 (X:Except Int Int) (w:wD) (ch:List PanicEntry) (w':wD):Prop:= ∃er,X = .error er/\ch=Mp er/\Ext w w'
def R5 (e:Int) (F:e≠0) (w:wD):Calls prog 152 #[.int .i64 e] w (TC (fun _ _=>False) (fun h w'=>h=Mp e/\Ext w w')):=by
 have X:=eU w;refine Ac func152 ntmps152 rfl rfl ?_;refine eK ?_;refine C1 (xB [_]) (C1 (TD A9 rfl) (Vi rfl (AB ?_)));exact bX ⟨_,rfl,rfl,X⟩
def Stp.WF.mono {K:List (Int×Int)} {m m':Nat} {st:Stp} (h:st.WF K m) (F:m<=m'):st.WF K m':=⟨h.len,h.base,h.calls,h.cell,h.nc,fun f G=>dV (h.vb f G) F⟩
def Run.tick (h:Run c P w r) (hr:0<r.rem) (x:Fr (· = c.rb) w w') (U:Blk w' c.rb [.slice c.va c.g.vars.length c.vc,.slice c.pa c.g.procs.length c.pc,.int .u8 c.g.main.kind,.int .i64 c.g.main.num,str c.g.main.name,.slice c.ma c.g.main.kids.length c.mc,.pointer (some ⟨c.sb,0,none⟩),.int .i64 ((c.fuel:Int)-r.rem+1),.int .i64 c.fuel,.slice (some ⟨c.eb,0,none⟩) c.g.procs.length c.ec]):Run c P w' ⟨r.st,r.rem-1⟩/\Fr (fun k=> ¬P k) w w':=by
 obtain ⟨ρ,κ,M,N,h3,h4,⟨es,V,X⟩,Y,⟨K,Z⟩,h9,L,G⟩:=h;have hs:=x.size;have O : ∀k,P k -> ¬k=c.rb:=fun k F e=>(G k F).1 (by rw [e,M];exact bX (bW rfl))
 refine ⟨⟨ρ,κ,M,N,by simp only;omega,?_,⟨es,V,X.fr x (fun e=>by rw [show c.eb=c.rb from e,M] at N;simp at N)⟩,Y.fr x (fun k F e=>by rw [show k=c.rb from F,M] at e;exact e),⟨K,Z.mono (by simp only;omega)⟩,h9.frS x (fun k F e=>O k (L k F) e),L,fun k F=>⟨(G k F).1,by have:=(G k F).2;omega⟩⟩,x.weaken (fun k F e=>O k e F)⟩;simp only;rw [show ((c.fuel:Int)-((r.rem-1:Nat):Int))=(c.fuel:Int)-r.rem+1 by omega];exact U
def Mq (hc:c.fuel<=10000) (w:wD) (h:Run c P w r):Calls prog 129 #[.pointer (some ⟨c.rb,0,none⟩)] w (D0 c P (A7 r) w):=by
 have X:=eU w;have L:=h.blk;have aa:=h.rem;have HI:=bU h;clear h;by_cases V:r.rem=0
 . have e:A7 r = .error 18:=by unfold A7;rw [AG V]
   rw [e];rw [V] at L;have HF:=bU (fun w1=>R5 18 AY w1);refine Ac func129 ntmps129 rfl rfl ?_;refine eK ?_;refine Ar (fun N=>Ext w N) 8 (.pure 0 (.pure 1 (.pure 2 (.pure 3 (.pure 4 (.pure 5 (.pure 6 (.pure 7 .tail)))))))) mixed A9 (Aa (Aa Ah)) ?_;intro w1 x2 _;have O:(fun N=>Ext w N) w1:=x2;simp only at O;have G:=L;revert X L;refine eY x2 ?_;intro z4 X L;refine ⟨O,?_⟩;refine Tq rfl Mv (Tq rfl Pn (Tq rfl Pf (Tq rfl (Db G) (Tq rfl Mv (Tq rfl Pn (Tq rfl Pf (Tq rfl (Db G) ?_)))))));refine At rfl (C1 V6 (cT (Vf (Aj (Mn A9 rfl (HF.out _) ?_)))));intro c5 w6 q7;refine AE (AB ?_);exact bX ⟨_,rfl,18,rfl,q7.1,fE (X.trans q7.2)⟩
 . have e:A7 r = .ok ⟨r.st,r.rem-1⟩:=by unfold A7;rw [As V]
   rw [e];have F:=fC (· = c.rb) w;refine Ac func129 ntmps129 rfl rfl ?_;refine eK ?_;refine Ar (fun N=>Ext w N) 8 (.pure 0 (.pure 1 (.pure 2 (.pure 3 (.pure 4 (.pure 5 (.pure 6 (.pure 7 .tail)))))))) mixed A9 (Aa (Aa Ah)) ?_;intro Y U _;have M:(fun N=>Ext w N) Y:=U;simp only at M;have G:=L;revert X L F;refine eY U ?_;intro ab X L F;refine ⟨M,?_⟩;refine Tq rfl Mv (Tq rfl Pn (Tq rfl Pf (Tq rfl (Db G) (Tq rfl Mv (Tq rfl Pn (Tq rfl Pf (Tq rfl (Db G) ?_)))))));refine At rfl ?_;refine eK ?_;refine eV [_] [_,_,_,_,_,_,_,_,_,_] L ?_;intro ac ad Z ae;clear L;have F:=F.fr Z Ab;refine Ak (Bs rfl ?_);have h9:=HI.out.tick Ab F Ae;exact bW ⟨_,rfl,rfl,h9.1,h9.2⟩
def R6 (e:Int) (w:wD):Ending->wD->Prop:=TC (fun en w'=>en = .returned (.tuple #[])/\e=0/\Ext w w') (fun ch w'=>e≠0/\ch=Mp e/\Ext w w')
def IE (e:Int) (p:Value) (w:wD):Calls prog 130 #[p,.int .i64 e] w (R6 e w):=by
 have X:=eU w;by_cases F:e=0
 . subst F;refine Ac func130 ntmps130 rfl rfl ?_;refine cS (C1 Mv (C1 V2 (cT (Np (Am (Bs rfl ?_))))));exact bW ⟨rfl,rfl,X⟩
 . have G:=bU (fun w1=>R5 e F w1);refine Ac func130 ntmps130 rfl rfl ?_;refine cS (C1 Mv (C1 V2 (cT (Ph (Aj (C1 Mv (Mn A9 rfl (G.out _) ?_)))))));intro L M h;refine AB ?_;exact bX ⟨_,rfl,F,h.1,X.trans h.2⟩
def Mr {K:List (Int×Int)} {m sb:Nat} {st:Stp} (F:st.WF K m) (G:m<=1000000):KO st.look 166 [.pointer (some ⟨sb,0,none⟩)] (fun w=>StoreAt ρ κ w sb st):=fun s w L=>Zl F G s w L.h
def Zr (N:c.fuel<=10000) (t:Nd) (G:t.wf) (L:t.isExpr=true) (a:oA) (m:Nat) (S:nP) (w:wD) (M:t.sits S w a) (h:Run c P w r) :
 Calls prog 165 #[t.val a m,.func (.func 166) #[.pointer (some ⟨c.sb,0,none⟩)] #[]] w fun e w'=>e = .returned (.tuple #[.bool (decide ((AT r.st.look t).1≠0)),.int .i64 (AT r.st.look t).2])/\Ext w w':=by
 obtain ⟨ρ,κ,h⟩:=h;obtain ⟨K,F⟩:=h.wf;exact X0 A9 (Mr (ρ:=ρ) (κ:=κ) (sb:=c.sb) F Ab) t G L S a m w M (E9 h.st)
def Zs (N:c.fuel<=10000) (t:Nd) (G:t.wf) (L:t.isExpr=true) (a:oA) (m:Nat) (S:nP) (w:wD) (M:t.sits S w a) (h:Run c P w r) :
 Calls prog 167 #[t.val a m,.func (.func 166) #[.pointer (some ⟨c.sb,0,none⟩)] #[]] w (ZO (AT r.st.look t) w):=by
 obtain ⟨ρ,κ,h⟩:=h;obtain ⟨K,F⟩:=h.wf;exact OP A9 (Mr (ρ:=ρ) (κ:=κ) (sb:=c.sb) F Ab) t G L S a m w M (E9 h.st)
def S3 (hc:c.fuel<=10000) (t:Nd) (hw:t.wf) (hx:t.isExpr=true) (a:oA) (m:Nat) (S:nP) (w:wD) (hs:t.sits S w a) (h:Run c P w r) :
 Calls prog 151 #[.pointer (some ⟨c.rb,0,none⟩),t.val a m] w (TC (ExpA (BH t r) w) (Z4 (BH t r) w)):=by
 have X:=eU w;have F:=BZ _ _ hs;have HE:=bU (fun w1 h1 h2=>Zs (c:=c) (P:=P) (r:=r) hc t hw hx a m (· < w.heap.size) w1 h1 h2);have HC:=bU (fun e w1=>IE e (.pointer (some ⟨c.rb,0,none⟩)) w1);unfold R6 at HC;have e1:BH t r=if (AT r.st.look t).2≠0 then .error (AT r.st.look t).2 else .ok (AT r.st.look t).1:=rfl
 rw [e1];clear hs e1;generalize AT r.st.look t=v at *;obtain ⟨k,n,s,l⟩:=t;refine Ac func151 ntmps151 rfl rfl ?_
 focus
  refine cS (eB [_,_,_,_] ?_);intro b1 w2 L x5 p6 z7;revert h X F;refine eE x5 ?_;intro h X F;refine eK ?_;refine Ar (fun N=>Ext w2 N) 11 (.pure 0 (.pure 1 (.pure 2 (.pure 3 (.pure 4 (.pure 5 (.fork 6 (.pure 7 (.pure 8 (.pure 9 (.pure 10 .tail)))) .none))))))) mixed A9 (Aa Ah) ?_;intro w8 x9 _;have G:(fun N=>Ext w2 N) w8:=x9;simp only at G;have O:=L;have U:=h;have V:=F;revert L h X F;refine eY x9 ?_;intro ab L h X F;refine ⟨G,?_⟩;refine Tq rfl (xL [_,_,_,_] (fun N Y=>(fH O Y))) ?_;refine eT ?_;refine Tq rfl (An Ad rfl rfl rfl (fun N Y=>fD (fH (Run.blk U) Y) rfl)) (Tq rfl (EY rfl rfl) ?_);refine tC rfl rfl (HE.out _ Ae Ae) ?_;rintro _ ac ⟨⟨⟩,Z⟩;revert G L h X F;refine eY Z ?_;intro ad G L h X F;refine ⟨G,?_⟩;refine Tq rfl Mv (Tq rfl Px (Tq rfl Px (Tq rfl Pa ?_)));refine At rfl ?_;refine eK ?_;refine A3 (AK A9 rfl (HC.out _ _) (fun _ _ h=>⟨_,h.1⟩)) rfl ?_ ?_;rotate_left;intro ae af M
  rotate_right 1
  rintro _ ag ⟨⟨⟩,⟨ah,aa⟩⟩;revert L h X F;refine eY aa ?_;intro ai L h X F;refine eK ?_;refine xR ?_;rotate_left;refine AE (AB ?_);rotate_left
 . exact bW ⟨_,rfl,by rw [As Ab],X⟩
 . exact bX ⟨_,rfl,v.2,by rw [AG M.1],M.2.1,X.trans M.2.2⟩
def OQ (hc:c.fuel<=10000) (t:Nd) (hw:t.wf) (hx:t.isExpr=true) (a:oA) (m:Nat) (w:wD) (M:t.sits P w a) (h:Run c P w r) :
 Calls prog 149 #[.pointer (some ⟨c.rb,0,none⟩),t.val a m] w (Ya c P (BL t r) w):=by
 have X:=eU w;have HR:=bU h;clear h;have e1 : ∀N,A7 r = .ok N->BL t r=if (AT N.st.look t).2≠0 then .error (AT N.st.look t).2 else .ok (decide ((AT N.st.look t).1≠0),N):=fun N h1=>by
  unfold BL;rw [h1];by_cases hv:(AT N.st.look t).2≠0
  . simp only [cJ,BH,AG hv]
  . simp only [cJ,BH,As hv]
 have e2 : ∀er,A7 r = .error er->BL t r = .error er:=fun er h1=>by unfold BL;rw [h1];rfl
 have HC:=bU (fun e w1=>IE e (.pointer (some ⟨c.rb,0,none⟩)) w1);unfold R6 at HC;have HT:=fun PP N w1 h1 h2=>Zr (c:=c) (P:=PP) (r:=N) hc t hw hx a m P w1 h1 h2
 obtain ⟨k,n,s,l⟩:=t;change Calls prog _ #[_,.agg #[.int .u8 k,.int .i64 n,str s,.slice a l.length m]] w _;refine Ac func149 ntmps149 rfl rfl ?_;refine cS (eB [_,_,_,_] ?_);intro b1 w2 U x5 p6 z7;revert X M;refine eE x5 ?_;intro X M;refine C1 Pa (cT ?_);have h1:=HR.out.more X;have HS:=bU (fun N w1 h=>Mq (c:=c) (P:=Ci P w w2) (r:=N) hc w1 h);unfold D0 at HS;have HT:=bU (HT (Ci P w w2));have F:Fr (fun k=> ¬P k) w w2:=fE X;clear X
 focus
  refine eK ?_;refine A3 (AK A9 rfl (HS.out _ _ Ae) (fun _ _ h=>h.ret)) rfl ?_ ?_;rotate_left;intro au av ah
  rotate_right 1
  rintro _ Y ⟨ab,⟨⟨⟩,⟨Z,⟨G,ac⟩⟩⟩⟩;revert U M F;refine eZ ac ?_;intro ai U M F;refine eK ?_;refine Ar (fun wz=>Ext Y wz) 11 (.pure 0 (.pure 1 (.pure 2 (.pure 3 (.pure 4 (.pure 5 (.fork 6 (.pure 7 (.pure 8 (.pure 9 (.pure 10 .tail)))) .none))))))) mixed A9 (Aa Ah) ?_;intro ad aa _;have L:(fun wz=>Ext Y wz) ad:=aa;simp only at L;have V:=G;have ae:=U;have aj:=M;revert G U M F;refine eY aa ?_;intro ak G U M F;refine ⟨L,?_⟩;refine Tq rfl (xL [_,_,_,_] (fun wz hz=>(fH ae hz))) ?_;refine eT ?_;refine Tq rfl (An Ad rfl rfl rfl (fun wz hz=>fD (fH (Run.blk V) hz) rfl)) (Tq rfl (EY rfl rfl) ?_);refine tC rfl rfl (HT.out _ _ Ae Ae) ?_;rintro _ al ⟨⟨⟩,af⟩;revert L G U M F;refine eY af ?_;intro am L G U M F;refine ⟨L,?_⟩;refine Tq rfl Mv (Tq rfl Px (Tq rfl Px (Tq rfl Pa ?_)));refine At rfl ?_;refine eK ?_;refine A3 (AK A9 rfl (HC.out _ _) (fun _ _ h=>⟨_,h.1⟩)) rfl ?_ ?_;rotate_left;intro an ao O
  rotate_right 1
  rintro _ ap ⟨⟨⟩,⟨aq,ag⟩⟩;revert G U M F;refine eY ag ?_;intro ar G U M F;refine eK ?_;refine xR ?_;rotate_left;refine AE (AB ?_);rotate_left;refine AE (AB ?_);rotate_left
 . exact bW ⟨_,ab,rfl,by rw [e1 _ Z,As Ab],G.less HR.out.sub (fun k=>bW),F⟩
 . exact bX ⟨_,rfl,_,by rw [e1 _ Z,AG O.1],O.2.1,F.ext O.2.2⟩
 . obtain ⟨er,g1,g2,g3⟩:=ah;exact bX ⟨_,rfl,er,e2 _ g1,g2,F.fr g3 (fun k hk=>bW (fun h=>hk (bW h)))⟩
def QB (hc:c.fuel<=10000) (G:Bool) (t:Nd) (hw:t.wf) (hx:t.isExpr=true) (a:oA) (m:Nat) (w:wD) (hs:t.sits P w a) (h:Run c P w r) :
 Calls prog 150 #[.pointer (some ⟨c.rb,0,none⟩),t.val a m,.bool G] w (D0 c P (Bp t G r) w):=by
 have X:=eU w;have HR:=bU h;clear h;have e1 : ∀q r1,BL t r = .ok (q,r1)->Bp t G r=if q≠G then .error 15 else .ok r1:=fun q r1 N=>by
  unfold Bp;rw [N];rfl
 have e2 : ∀O,BL t r = .error O->Bp t G r = .error O:=fun O N=>by unfold Bp;rw [N];rfl
 have HF:=bU (fun w1=>R5 15 AY w1);have HH:=fun PP w1 N h2=>OQ (c:=c) (P:=PP) (r:=r) hc t hw hx a m w1 N h2
 obtain ⟨k,n,s,l⟩:=t;change Calls prog _ #[_,.agg #[.int .u8 k,.int .i64 n,str s,.slice a l.length m],_] w _;refine Ac func150 ntmps150 rfl rfl ?_;refine cS (eB [_,_,_,_] ?_);intro b1 w2 h4 x5 p6 z7;revert X hs;refine eE x5 ?_;intro X hs;refine cT ?_;have N:=HR.out.more X;have HH:=bU (HH (Ci P w w2));unfold Ya at HH;have F:Fr (fun k=> ¬P k) w w2:=fE X;clear X
 focus
  refine eK ?_;refine A3 (AK A9 rfl (HH.out _ (eX Ae (fun b h=>bW h)) Ae) (fun _ _ h=>h.ret)) rfl ?_ ?_;rotate_left;intro ag ah aa
  rotate_right 1
  rintro _ ab ⟨ac,⟨U,⟨⟨⟩,⟨L,⟨V,Y⟩⟩⟩⟩⟩;revert h4 hs F;refine eZ Y ?_;intro ad h4 hs F;refine C1 Mv (C1 (Mo Ad rfl rfl rfl) (cT ?_));refine BU rfl (fun Z=>?_) (fun Z=>?_);refine Aj (Mn A9 rfl (HF.out _) ?_);intro ae af M;refine AB ?_;rotate_left;refine Am (Bs rfl ?_);rotate_left;refine AE (AB ?_);rotate_left
 . exact bX ⟨_,rfl,15,by rw [e1 _ _ L,AG Ae],M.1,F.ext M.2⟩
 . exact bW ⟨U,rfl,by rw [e1 _ _ L,As (fun h=>h Ae)],V.less HR.out.sub (fun k=>bW),F⟩
 . obtain ⟨O,g1,g2,g3⟩:=aa;exact bX ⟨_,rfl,O,e2 _ g1,g2,F.fr g3 (fun k hk=>bW (fun h=>hk (bW h)))⟩
end
def JY {P:Program} {n:Nat} {l:Sl} {tab:Tab} {sz N:Nat} {w:wD} {fn:Func} {R:Ending->wD->Prop} {Y L b M F Z:Nat} {sk O:Sk} {vs G:lV} (h:fn.results = #[.cell Y L,.cell M F]) (T:TabOk P tab) (ht:Az tab L=some (sk,sz)) (U:Az tab F=some (O,N)) (hs:sk.agg=true) (aa:O.agg=true)
 (hv:look l Y=some (.pointer (some ⟨b,0,none⟩))) (ab:look l M=some (.pointer (some ⟨Z,0,none⟩))) (hb:Blk w b vs) (ac:Blk w Z G) (hl:vs.length=sz) (ad:G.length=N) (hR:R (.returned (.tuple #[.agg vs.toArray,.agg G.toArray])) w):QW n (bodyPost P fn R) .ret l w:=by
 unfold QW;intro a ha;refine ⟨ha.defers,.tuple #[.agg vs.toArray,.agg G.toArray],?_,hR⟩;have e:(loadVar L ⟨b,0,none⟩).run P w = .ok (.agg vs.toArray) w:=by
  simp only [cU,dC,cG,loadVar,DG (T _ _ _ ht),hs,if_true,Ck (T _ _ _ ht)];rw [<-hl,CM hb.row]
 have e':(loadVar F ⟨Z,0,none⟩).run P w = .ok (.agg G.toArray) w:=by
  simp only [cU,dC,cG,loadVar,DG (T _ _ _ U),aa,if_true,Ck (T _ _ _ U)];rw [<-ad,CM ac.row]
 have V:=ha.has Y _ hv;have X:=ha.has M _ ab;simp only [Array.getD_eq_getD_getElem?] at V X;simp [results,h,V,X,e,e',asAddr]
section
variable {c:RC} {P P':nP} {w w':wD} {r:Rn} {T:nP}
def QC (c:RC) (P:nP) (rem:Nat) (x:Int×Stp) (w:wD):Ending->wD->Prop:=fun e w'=>e = .returned (.int .i64 x.1)/\Run c P w' ⟨x.2,rem⟩/\Fr (fun k=> ¬(P k\/k=c.rb)) w w'
def RunAt.store {ρ:Nat->Rl} {κ:Nat->Nat} (h:RunAt c P ρ κ w r) {st:Stp} {x:Int} (N : ∃K,st.WF K (1000+(c.fuel-r.rem))) {e:Ending} (Z:StR ρ c.sb st x w e w'):QC c P r.rem (x,st) w e w':=by
 obtain ⟨ρ',κ',h1,O,h3,L⟩:=Z;obtain ⟨k1,U,k3,V,⟨es,k5,X⟩,k7,k8,k9,M,G⟩:=h;have hz:=L.size;have Y : ∀k,P k -> ¬LU (ρ k):=fun k F e=>(G k F).1 (bW e)
 refine ⟨h1,⟨ρ',κ',by rw [O _ V.lt,k1],by rw [O _ X.lt,U],k3,V.fr L (fun e=>by rw [k1] at e;exact e),⟨es,k5,X.fr L (fun e=>by rw [U] at e;exact e)⟩,h3,N,k9.frS L (fun k F e=>Y k (M k F) e),M,fun k F=>⟨?_,by have:=(G k F).2;omega⟩⟩,L.weaken (fun k F e=>by rcases e with e|e;exact Y k e F;rw [e,k1] at F;exact F)⟩;rw [O _ (G k F).2];exact (G k F).1
def Zt (X:c.fuel<=10000) (v:VD) (G:v.kind=1\/v.kind=3) (M:v.len=0) (x:Int) (w:wD) (h:Run c P w r) (Y:r.rem<c.fuel) {m:Nat} (N : ∃K,r.st.WF K (1000+m)) (O:m<c.fuel-r.rem) :
 Calls prog 131 #[.pointer (some ⟨c.sb,0,none⟩),v.val,.int .i64 x] w (QC c P r.rem (r.st.opens v x) w):=by
 obtain ⟨ρ,κ,h⟩:=h;obtain ⟨K,L⟩:=N;refine dY (Zm L Ab v G M x w h.st) fun e w' U=>h.store ?_ U
 obtain ⟨V,F⟩:=L.opens G x;exact ⟨V,F.mono Ab⟩
def S4 (L:c.fuel<=10000) (s:lB) (x:Int) (w:wD) (h:Run c P w r):Calls prog 132 #[.pointer (some ⟨c.sb,0,none⟩),str s,.int .i64 x] w (QC c P r.rem (r.st.closes s x) w):=by
 obtain ⟨ρ,κ,h⟩:=h;obtain ⟨K,F⟩:=h.wf;exact dY (XW F Ab s x w h.st) fun e w' G=>h.store ⟨K,F.closes s x⟩ G
def Yb (L:c.fuel<=10000) (w:wD) (h:Run c P w r):Calls prog 156 #[.pointer (some ⟨c.sb,0,none⟩)] w (QC c P r.rem (r.st.leaves) w):=by
 obtain ⟨ρ,κ,h⟩:=h;obtain ⟨K,F⟩:=h.wf;exact dY (XV F w h.st) fun e w' G=>h.store ⟨K,F.leaves⟩ G
def Yc (hc:c.fuel<=10000) (ps:List VD) (F:List lB) (U:ps.length<=1000) (G L:oA) (M N:Nat) (w:wD) (h:Run c P w r) (V:VDs P w ps G) (X:Rows P w (F.map str) L) :
 Calls prog 155 #[.pointer (some ⟨c.sb,0,none⟩),.slice G ps.length M,.slice L F.length N] w (QC c P r.rem (r.st.enters ps F) w):=by
 obtain ⟨ρ,κ,h⟩:=h;obtain ⟨K,O⟩:=h.wf;exact dY (XX (S:=P) O Ab ps F Ab (fun k Y e=>(h.off k Y).1 (bW e)) G L M N w h.st V X) fun e w' Z=>h.store ⟨K,O.enters Ab F⟩ Z
def aX (U:c.fuel<=10000) {k n:Int} {s:lB} {l:List Nd} (N:(40<=k/\k<=49)\/k=56) (F:(Nd.mk k n s l).isStmt=true) (G:(Nd.mk k n s l).wf) (O:(Nd.mk k n s l).size<=1000000) (a:oA) (c0:Nat) (w:wD) (L:rowSits P w l a) (h:Run c P w r) :
 Calls prog 135 #[.pointer (some ⟨c.sb,0,none⟩),.agg #[.int .u8 k,.int .i64 n,str s,.slice a l.length c0]] w (QC c P r.rem (r.st.run1 k n s l) w):=by
 obtain ⟨ρ,κ,h⟩:=h;obtain ⟨K,M⟩:=h.wf;exact dY (Z0 M Ab N F G O a c0 w L h.st) fun e w' L=>h.store ⟨K,M.run1 k n s l⟩ L
def Zu (U:c.fuel<=10000) {k n:Int} {s:lB} {l:List Nd} (N:(40<=k/\k<=49)\/k=56) (F:(Nd.mk k n s l).isStmt=true) (G:(Nd.mk k n s l).wf) (O:(Nd.mk k n s l).size<=1000000) (a:oA) (c0:Nat) (w:wD) (L:rowSits P w l a) (h:Run c P w r) :
 Calls prog 134 #[.pointer (some ⟨c.sb,0,none⟩),.agg #[.int .u8 k,.int .i64 n,str s,.slice a l.length c0]] w (QC c P r.rem (r.st.run1 (Bd k) n s l) w):=by
 obtain ⟨ρ,κ,h⟩:=h;obtain ⟨K,M⟩:=h.wf;exact dY (Zq M Ab N F G O a c0 w L h.st) fun e w' L=>h.store ⟨K,M.run1 (Bd k) n s l⟩ L
def Fa {Z:Except Int Rn} {G:Rn} (h:Run c P' w' G) (F:Fr (fun k=> ¬P k) w w') (L : ∀k,c.S k->P k) (M : ∀k,P k->P' k) (e:Z = .ok G):D0 c P Z w (.returned (.tuple #[])) w':=bW ⟨G,rfl,e,h.less L M,F⟩
def BC {α:Type} {Z:Except Int Rn} {X:Except Int α} {w1:wD} {L:List PanicEntry} (q:QA P' X w1 L w') (F:Fr (fun k=> ¬P k) w w1) (M : ∀k,P k->P' k) (e : ∀G,X = .error G->Z = .error G):D0 c P Z w (.panicked L) w':=by
 obtain ⟨G,N,O,U⟩:=q;exact bX ⟨_,rfl,G,e _ N,O,F.fr U (fun k V=>bW (fun h=>V (M k h)))⟩
def QD {l:List Nd} {i:Nat} (h:i<l.length):l[i]? = some (Bw l i):=by
 unfold Bw;rw [cB,bT h];rfl
def EndsA (P:nP) (f l:Nd) (w:wD):Ending->wD->Prop:=fun e w'=> ∃a m a' m',e = .returned (.tuple #[f.val a m,l.val a' m'])/\f.sits P w' a/\l.sits P w' a'/\Ext w w'
def EndsA.ret {f l:Nd} {e:Ending} (h:EndsA P f l w e w') : ∃v,e = .returned v:=by
 obtain ⟨_,_,_,_,h,-⟩:=h;exact ⟨_,h⟩
def R7 {k n:Int} {s:lB} {l:List Nd} (hl:2<=l.length) (cp:l.length<=1000000) (af:Bool) (a:oA) (c0:Nat) (w:wD) (hs:rowSits P w l a) (hP : ∀k,P k->k<w.heap.size) :
 Calls prog 148 #[.agg #[.int .u8 k,.int .i64 n,str s,.slice a l.length c0],.bool af] w (EndsA P (if af then Bw l (l.length-1) else Bw l 0) (if af then Bw l 0 else Bw l (l.length-1)) w):=by
 have X:=eU w;obtain ⟨kb,ko,rfl,bz,a0⟩:=BA hs (by intro e;subst e;simp at hl);obtain ⟨xa,xc,O,M⟩:=a0 0 _ (QD Ab);obtain ⟨ya,yc,U,N⟩:=a0 (l.length-1) _ (QD Ab);clear a0 hs;generalize Bw l 0=x at *;generalize Bw l (l.length-1)=y at *;obtain ⟨xk,xn,xs,xl⟩:=x;obtain ⟨yk,yn,ys,yl⟩:=y;replace O:Row w ⟨kb,ko+0*4,none⟩ [.int .u8 xk,.int .i64 xn,str xs,.slice xa xl.length xc]:=O;have hi:((l.length:Int)-1).toNat=l.length-1:=by omega
 replace U:Row w ⟨kb,ko+((l.length:Int)-1).toNat*4,none⟩ [.int .u8 yk,.int .i64 yn,str ys,.slice ya yl.length yc]:=by rw [hi];exact U
 have cq:=hP kb bz;refine Ac func148 ntmps148 rfl rfl ?_
 focus
  refine cS (eB [_,_,_,_] ?_);intro b1 w2 V x5 p6 z7;revert X M N O U;refine eE x5 ?_;intro X M N O U;refine eA [_,_,_,_] ?_;intro b8 w9 G b0 cr ct;revert V X M N O U;refine eE b0 ?_;intro V X M N O U;refine eA [_,_,_,_] ?_;intro cu br F b2 cv cw;revert G V X M N O U;refine eE b2 ?_;intro G V X M N O U;refine eK ?_;refine Ar (fun wz=>Ext br wz) 15 (.pure 0 (.pure 1 (.pure 2 (.pure 3 (.pure 4 (.pure 5 (.pure 6 (.pure 7 (.pure 8 (.pure 9 (.pure 10 (.pure 11 (.fork 12 (.fork 13 (.fork 14 .tail .none) .none) (.fork 13 (.fork 12 (.fork 14 .tail .none) .none) .none)))))))))))))) mixed A9 (Aa Ah) ?_;intro b3 bs _;have L:(fun wz=>Ext br wz) b3:=bs;simp only at L;have ad:=F;have ae:=G;have aq:=V;have ar:=M;have au:=N;have ag:=O;have ah:=U;revert F G V X M N O U;refine eY bs ?_;intro cx F G V X M N O U;refine ⟨L,?_⟩;refine eT ?_;refine Tq rfl (DR [_,_,_,_] Ad rfl rfl rfl (fun wz hz=>(fL ag hz)) rfl rfl) ?_;refine eT ?_;refine Tq rfl (Bq rfl rfl (dA _ Ab)) (Tq rfl Pi (Tq rfl (Cl Ad rfl rfl rfl (fun wz hz=>(fL ah hz)) rfl) ?_));refine Ax rfl (Bt CY rfl) rfl ?_ aFh ?kr28;rintro _ cy ⟨cz,rfl,a1⟩;have a2:=a1.blk;dsimp only at a2;have b4:=a1.ext;have c1:=a1.pos;have c2:=a1.size;revert L F G V X M N O U;refine eE b4 ?_;intro L F G V X M N O U;refine ⟨L,?_⟩;refine Ax rfl (Bt CY rfl) rfl ?_ aFh Aw;rintro _ c3 ⟨c4,rfl,a3⟩;have a4:=a3.blk;dsimp only at a4;have b5:=a3.ext;have c5:=a3.pos;have c6:=a3.size;revert a2 L F G V X M N O U;refine eE b5 ?_;intro a2 L F G V X M N O U;refine ⟨L,?_⟩;refine DS [_,_,_,_] [_,_,_,_] rfl Ad rfl rfl rfl rfl rfl rfl a2 rfl rfl ?_ Aw;intro c7 bl;have Z:=bl.blk;have a5:=bl.fr;have c8:=bl.size;revert a4 L F G V X;refine eF a5 ?_;intro a4 L F G V X;have M:=eW M a5 (fun b Y h=>by (have h1:=hP b Y;have e:b=_:=h;omega));have N:=eW N a5 (fun b Y h=>by (have h1:=hP b Y;have e:b=_:=h;omega));revert O U;refine eF a5 ?_;intro O U;refine ⟨L,?_⟩;refine At rfl (eS [_,_,_,_] a4 ?_);intro a6 ab a7 z53;revert Z F G V X;refine eF a7 ?_;intro Z F G V X;have M:=eW M a7 (fun b Y h=>by (have h1:=hP b Y;have e:b=_:=h;omega));have N:=eW N a7 (fun b Y h=>by (have h1:=hP b Y;have e:b=_:=h;omega));revert O U
  refine eF a7 ?_;intro O U;refine cT (Ai ?_);rotate_left;refine Ax rfl (Bt CY rfl) rfl ?_ aFh Aw;rintro _ c9 ⟨da,rfl,a8⟩;have az:=a8.blk;dsimp only at az;have b6:=a8.ext;have db:=a8.pos;have dc:=a8.size;revert L F G V X M N O U;refine eE b6 ?_;intro L F G V X M N O U;refine ⟨L,?_⟩;refine Ax rfl (Bt CY rfl) rfl ?_ aFh Aw;rintro _ dd ⟨de,rfl,a9⟩;have bt:=a9.blk;dsimp only at bt;have b7:=a9.ext;have df:=a9.pos;have dg:=a9.size;revert az L F G V X M N O U;refine eE b7 ?_;intro az L F G V X M N O U;refine ⟨L,?_⟩;refine DS [_,_,_,_] [_,_,_,_] rfl Ad rfl rfl rfl rfl rfl rfl bt rfl rfl ?_ Aw;intro dh bm;have aa:=bm.blk;have ba:=bm.fr;have z75:=bm.size;revert az L F G V X;refine eF ba ?_;intro az L F G V X;have M:=eW M ba (fun b Y h=>by (have h1:=hP b Y;have e:b=_:=h;omega));have N:=eW N ba (fun b Y h=>by (have h1:=hP b Y;have e:b=_:=h;omega));revert O U;refine eF ba ?_;intro O U;refine ⟨L,?_⟩;refine At rfl (eS [_,_,_,_] az ?_);intro bb ac bc z80;revert aa F G V X;refine eF bc ?_;intro aa F G V X;have M:=eW M bc (fun b Y h=>by (have h1:=hP b Y;have e:b=_:=h;omega));have N:=eW N bc (fun b Y h=>by (have h1:=hP b Y;have e:b=_:=h;omega));revert O U;refine eF bc ?_;intro O U;refine cT (Ai ?_);rotate_left
 . cases af
   . refine eK ?_;refine Ar (fun wz=>Fr (fun x=>x=b8) a6 wz) 3 (.pure 0 (.pure 1 (.fork 2 .tail .none))) mixed A9 (Aa Ah) ?_;intro b9 bu _;have ai:(fun wz=>Fr (fun x=>x=b8) a6 wz) b9:=fE bu;simp only at ai;have am:=ab;have an:=Z;have ad:=F;have ae:=G;have aq:=V;have ar:=M;have au:=N;have ag:=O;have ah:=U;revert ab Z F G V X M N O U;refine eY bu ?_;intro di ab Z F G V X M N O U;refine ⟨ai,?_⟩;refine Tq rfl (xL [_,_,_,_] (fun wz hz=>(fB an hz (by first|omega|(dsimp only;omega))))) (Tq rfl (xL [_,_,_,_] (fun wz hz=>(fB am hz (by first|omega|(dsimp only;omega))))) ?_);refine DS [_,_,_,_] [_,_,_,_] rfl Ad rfl rfl rfl rfl rfl rfl G rfl rfl ?_ Aw;intro dk bn;have bh:=bn.blk;have bd:=bn.fr;have dl:=bn.size;revert ai ab Z F V X;refine eF bd ?_;intro ai ab Z F V X;have M:=eW M bd (fun b Y h=>by (have h1:=hP b Y;have e:b=_:=h;omega));have N:=eW N bd (fun b Y h=>by (have h1:=hP b Y;have e:b=_:=h;omega));revert O U;refine eF bd ?_;intro O U;refine ⟨ai,?_⟩;refine At rfl (eS [_,_,_,_] F ?_);intro cd ce av cf;revert bh ab Z V X;refine eF av ?_;intro bh ab Z V X;have M:=eW M av (fun b Y h=>by (have h1:=hP b Y;have e:b=_:=h;omega));have N:=eW N av (fun b Y h=>by (have h1:=hP b Y;have e:b=_:=h;omega));revert O U;refine eF av ?_;intro O U;refine cT (AN ?_)
     refine JY rfl Ad rfl rfl rfl rfl rfl rfl Ae Ae rfl rfl ?_;exact ⟨_,_,_,_,rfl,M,N,X⟩
   . refine eK ?_;refine Ar (fun wz=>Fr (fun x=>x=b8) a6 wz) 3 (.pure 0 (.pure 1 (.fork 2 .tail .none))) mixed A9 (Aa (Aa Ah)) ?_;intro ca bv _;have aj:(fun wz=>Fr (fun x=>x=b8) a6 wz) ca:=fE bv;simp only at aj;have am:=ab;have an:=Z;have ad:=F;have ae:=G;have aq:=V;have ar:=M;have au:=N;have ag:=O;have ah:=U;revert ab Z F G V X M N O U;refine eY bv ?_;intro dm ab Z F G V X M N O U;refine ⟨aj,?_⟩;refine Tq rfl (xL [_,_,_,_] (fun wz hz=>(fB am hz (by first|omega|(dsimp only;omega))))) (Tq rfl (xL [_,_,_,_] (fun wz hz=>(fB an hz (by first|omega|(dsimp only;omega))))) ?_);refine DS [_,_,_,_] [_,_,_,_] rfl Ad rfl rfl rfl rfl rfl rfl G rfl rfl ?_ Aw;intro dn bo;have bi:=bo.blk;have be:=bo.fr;have dp:=bo.size;revert aj ab Z F V X;refine eF be ?_;intro aj ab Z F V X;have M:=eW M be (fun b Y h=>by (have h1:=hP b Y;have e:b=_:=h;omega));have N:=eW N be (fun b Y h=>by (have h1:=hP b Y;have e:b=_:=h;omega));revert O U;refine eF be ?_;intro O U;refine ⟨aj,?_⟩;refine At rfl (eS [_,_,_,_] F ?_);intro cg ch aw ci;revert bi ab Z V X;refine eF aw ?_;intro bi ab Z V X;have M:=eW M aw (fun b Y h=>by (have h1:=hP b Y;have e:b=_:=h;omega));have N:=eW N aw (fun b Y h=>by (have h1:=hP b Y;have e:b=_:=h;omega));revert O U;refine eF aw ?_;intro O U;refine cT (AN (Ao ?_))
     refine JY rfl Ad rfl rfl rfl rfl rfl rfl Ae Ae rfl rfl ?_;exact ⟨_,_,_,_,rfl,N,M,X⟩
 . cases af
   . refine eK ?_;refine Ar (fun wz=>Fr (fun x=>x=b8) bb wz) 3 (.pure 0 (.pure 1 (.fork 2 .tail .none))) mixed A9 (Aa Ah) ?_;intro cb bw _;have ak:(fun wz=>Fr (fun x=>x=b8) bb wz) cb:=fE bw;simp only at ak;have ao:=ac;have ap:=aa;have ad:=F;have ae:=G;have aq:=V;have ar:=M;have au:=N;have ag:=O;have ah:=U;revert ac aa F G V X M N O U;refine eY bw ?_;intro dq ac aa F G V X M N O U;refine ⟨ak,?_⟩;refine Tq rfl (xL [_,_,_,_] (fun wz hz=>(fB ap hz (by first|omega|(dsimp only;omega))))) (Tq rfl (xL [_,_,_,_] (fun wz hz=>(fB ao hz (by first|omega|(dsimp only;omega))))) ?_);refine DS [_,_,_,_] [_,_,_,_] rfl Ad rfl rfl rfl rfl rfl rfl G rfl rfl ?_ Aw;intro dr bp;have bj:=bp.blk;have bf:=bp.fr;have ds:=bp.size;revert ak ac aa F V X;refine eF bf ?_;intro ak ac aa F V X;have M:=eW M bf (fun b Y h=>by (have h1:=hP b Y;have e:b=_:=h;omega));have N:=eW N bf (fun b Y h=>by (have h1:=hP b Y;have e:b=_:=h;omega));revert O U;refine eF bf ?_;intro O U;refine ⟨ak,?_⟩;refine At rfl (eS [_,_,_,_] F ?_);intro cj ck ax cl;revert bj ac aa V X;refine eF ax ?_;intro bj ac aa V X;have M:=eW M ax (fun b Y h=>by (have h1:=hP b Y;have e:b=_:=h;omega));have N:=eW N ax (fun b Y h=>by (have h1:=hP b Y;have e:b=_:=h;omega));revert O U;refine eF ax ?_;intro O U;refine cT (AN ?_)
     refine JY rfl Ad rfl rfl rfl rfl rfl rfl Ae Ae rfl rfl ?_;exact ⟨_,_,_,_,rfl,M,N,X⟩
   . refine eK ?_;refine Ar (fun wz=>Fr (fun x=>x=b8) bb wz) 3 (.pure 0 (.pure 1 (.fork 2 .tail .none))) mixed A9 (Aa (Aa Ah)) ?_;intro cc bx _;have al:(fun wz=>Fr (fun x=>x=b8) bb wz) cc:=fE bx;simp only at al;have ao:=ac;have ap:=aa;have ad:=F;have ae:=G;have aq:=V;have ar:=M;have au:=N;have ag:=O;have ah:=U;revert ac aa F G V X M N O U;refine eY bx ?_;intro dt ac aa F G V X M N O U;refine ⟨al,?_⟩;refine Tq rfl (xL [_,_,_,_] (fun wz hz=>(fB ao hz (by first|omega|(dsimp only;omega))))) (Tq rfl (xL [_,_,_,_] (fun wz hz=>(fB ap hz (by first|omega|(dsimp only;omega))))) ?_);refine DS [_,_,_,_] [_,_,_,_] rfl Ad rfl rfl rfl rfl rfl rfl G rfl rfl ?_ Aw;intro du bq;have bk:=bq.blk;have bg:=bq.fr;have dv:=bq.size;revert al ac aa F V X;refine eF bg ?_;intro al ac aa F V X;have M:=eW M bg (fun b Y h=>by (have h1:=hP b Y;have e:b=_:=h;omega));have N:=eW N bg (fun b Y h=>by (have h1:=hP b Y;have e:b=_:=h;omega));revert O U;refine eF bg ?_;intro O U;refine ⟨al,?_⟩;refine At rfl (eS [_,_,_,_] F ?_);intro cm cn ay co;revert bk ac aa V X;refine eF ay ?_;intro bk ac aa V X;have M:=eW M ay (fun b Y h=>by (have h1:=hP b Y;have e:b=_:=h;omega));have N:=eW N ay (fun b Y h=>by (have h1:=hP b Y;have e:b=_:=h;omega));revert O U;refine eF ay ?_;intro O U;refine cT (AN (Ao ?_))
     refine JY rfl Ad rfl rfl rfl rfl rfl rfl Ae Ae rfl rfl ?_;exact ⟨_,_,_,_,rfl,N,M,X⟩
end
mutual
def Zv (ps:List PD):Nd->Prop
 | .mk k _ s l=>((k=50\/k=51)->(Cf ps s).isSome=true)/\We ps l
def We (ps:List PD):List Nd->Prop
 | []=>True
 | t::r=>Zv ps t/\We ps r
end
def JZ {ps:List PD} : ∀ {l:List Nd} {i:Nat} {t:Nd},We ps l->l[i]? = some t->Zv ps t
 | x::r,0,t,h,e=>by simp only [dF,cE] at e;subst e;exact h.1
 | x::r,i+1,t,h,e=>JZ h.2 (by simpa using e)
 | [],_,_,_,e=>by simp at e
def Ij : ∀ {l:List Nd} {i:Nat} {t:Nd},Eh l=true->l[i]? = some t->t.isStmt=true
 | x::r,0,t,h,e=>by simp only [dF,cE] at e;subst e;simp only [Eh,bZ] at h;exact h.1
 | x::r,i+1,t,h,e=>by simp only [Eh,bZ] at h;exact Ij h.2 (by simpa using e)
 | [],_,_,_,e=>by simp at e
structure StOk (ps:List PD) (t:Nd):Prop where
 wf:t.wf
 size:t.size<=1000000
 calls:Zv ps t
def Wf (c:RC) (d:Nat):Prop:= ∀(P:nP) (b:Bool) (t:Nd) (r:Rn) (a:oA) (m:Nat) (w:wD),t.isStmt=true->StOk c.g.procs t->Au c.g.procs d b t r≠.error (-1)->t.sits P w a->Run c P w r ->
 Calls prog 108 #[.pointer (some ⟨c.rb,0,none⟩),t.val a m,.bool b] w (D0 c P (Au c.g.procs d b t r) w)
def Fb (c:RC) (d:Nat):Prop:= ∀(P:nP) (b:Bool) (t:Nd) (r:Rn) (a:oA) (m:Nat) (w:wD),t.isBlock=true->StOk c.g.procs t->AD (Au c.g.procs d) b t r≠.error (-1)->t.sits P w a->Run c P w r ->
 Calls prog 66 #[.pointer (some ⟨c.rb,0,none⟩),t.val a m,.bool b] w (D0 c P (AD (Au c.g.procs d) b t r) w)
section
variable {c:RC} {P P':nP} {w w':wD} {r:Rn} {T:nP}
def S5 {d:Nat} (IH:Wf c d):Fb c d:=by
 intro P b t r a m w hb ar af N h;have X:=eU w;have HR:=bU h;clear h;obtain ⟨k,n,s,l⟩:=t;have Z:Eh l=true:=by
  unfold Nd.isBlock at hb;simp only [bZ] at hb;exact hb.2
 obtain ⟨au,hz,av⟩:=ar;obtain ⟨-,-,-,-,-,-,ag⟩:=au;have ah:We c.g.procs l:=av.2;have a3:=EM l;simp only [fF] at hz;have hX:AD (Au c.g.procs d) b (.mk k n s l) r=E2 (Au c.g.procs d b) (if b then l.reverse else l) r:=rfl;rw [hX] at af ⊢;have N:rowSits P w l a:=N;change Calls prog _ #[_,.agg #[.int .u8 k,.int .i64 n,str s,.slice a l.length m],_] w _;generalize hL:(if b then l.reverse else l)=L at *;have a4:L.length=l.length:=by rw [<-hL];split<;>simp
 have ai : ∀j,j<l.length->l[if b then l.length-1-j else j]? = L[j]? := fun j hj=>by
  rw [<-hL];cases b
  . rfl
  . simp only [if_true];rw [List.getElem?_reverse hj]
 refine Ac func66 ntmps66 rfl rfl ?_;refine cS (eB [_,_,_,_] ?_);intro b1 w2 h4 x5 p6 z7;have X:=X.ext x5;clear N;have N:=fY N x5;refine cT ?_;have h1:=HR.out.more X;have F:Fr (fun k=> ¬P k) w w2:=fE X;clear X;refine eK ?_;refine C1 (Bq rfl rfl (dA _ Ab)) (C1 Pa (cN (C1 Pf (C1 (Pl h4) (C1 Pz (C1 Mv (cT ?_)))))));refine Av ?_;refine A1 (ι:=Nat) (fun j=>[(0,.pointer (some ⟨c.rb,0,none⟩)),(2,.bool b),(4,.pointer (some ⟨b1,0,none⟩)),(6,.int .i64 ((l.length:Int)-1)),(14,.int .i64 l.length),(15,.int .i64 j)])
  (fun j w'=> ∃Y,j<=l.length/\Run c (Ci P w w2) w' Y/\Blk w' b1 [.int .u8 k,.int .i64 n,str s,.slice a l.length m]/\rowSits P w' l a/\Fr (fun k=> ¬P k) w w'/\E2 (Au c.g.procs d b) L r=E2 (Au c.g.procs d b) (L.drop j) Y)
  (fun j=>l.length-j) 0 sB ⟨r,cQ _,h1,h4,N,F,rfl⟩ ?_
 clear h1 h4 N F;rintro j w1 ⟨Y,hj,h1,h4,N,F,O⟩;by_cases aj:j<l.length
 . obtain ⟨kb,ko,rfl,a5,M⟩:=BA N (by intro e;subst e;simp at aj);have G:=ai j aj;rw [bT (by omega:j<L.length)] at G;rw [dH (by omega:j<L.length),E2] at O;have ak:Au c.g.procs d b L[j] Y≠.error (-1):=fun e=>af (by rw [O,e];rfl)
   have U : ∀er,Au c.g.procs d b L[j] Y = .error er->E2 (Au c.g.procs d b) L r = .error er:=fun er e=>by rw [O,e];rfl
   have V : ∀r2,Au c.g.procs d b L[j] Y = .ok r2->E2 (Au c.g.procs d b) L r=E2 (Au c.g.procs d b) (L.drop (j+1)) r2:=fun r2 e=>by rw [O,e];rfl
   cases b with
   | false=>
    simp only [dK,if_true,if_false] at G;obtain ⟨xa,xc,rx,sx⟩:=M _ _ G;have ac:=Ij Z G;have ad:=JZ ah G;have ae:=BF ag _ (dL G);have aw:=DP (dL G);clear M G;generalize L[j]=x at *;have HS:=bU (fun w1 h1 h2=>IH (Ci P w w2) false x Y xa xc w1 ac ⟨ae,Ab,ad⟩ ak h1 h2);unfold D0 at HS;obtain ⟨xk,xn,xs,xl⟩:=x;replace rx:Row w1 ⟨kb,ko+j*4,none⟩ [.int .u8 xk,.int .i64 xn,str xs,.slice xa xl.length xc]:=rx
    focus
     refine eK ?_;refine A3 (AK A9 rfl (HS.out _ (eX Ae (fun b h=>bW h)) Ae) (fun _ _ h=>h.ret)) rfl ?_ ?_;rotate_left;intro a6 a7 ax
     rotate_right 1
     rintro _ az ⟨al,⟨⟨⟩,⟨am,⟨an,aa⟩⟩⟩⟩;revert F h4 N sx;refine eZ aa ?_;intro a0 F h4 N sx;clear rx aa;refine Ak (Af (Ag (Aj (C1 V7 (C1 Mv (Ak ?_))))));rotate_left;refine AS (AE (AE (AS (AB ?_))));rotate_left
    . exact AI (j+1) sB ⟨al,Ab,an,Ae,Ae,F,V _ am⟩ Ab
    . obtain ⟨er,g1,g2,g3⟩:=ax;exact bX ⟨_,rfl,er,U _ g1,g2,F.fr g3 (fun k hk=>bW (fun h=>hk (bW h)))⟩
   | true=>
    simp only [if_true,if_false] at G;obtain ⟨xa,xc,rx,sx⟩:=M _ _ G;have ac:=Ij Z G;have ad:=JZ ah G;have ae:=BF ag _ (dL G);have aw:=DP (dL G);clear M G;generalize L[j]=x at *;have HS:=bU (fun w1 h1 h2=>IH (Ci P w w2) true x Y xa xc w1 ac ⟨ae,Ab,ad⟩ ak h1 h2);unfold D0 at HS;obtain ⟨xk,xn,xs,xl⟩:=x;replace rx:Row w1 ⟨kb,ko+((l.length:Int)-1-(j:Int)).toNat*4,none⟩ [.int .u8 xk,.int .i64 xn,str xs,.slice xa xl.length xc]:=by rw [show ((l.length:Int)-1-(j:Int)).toNat=l.length-1-j by omega];exact rx
    focus
     refine eK ?_;refine C1 (Bq rfl rfl (dA _ Ab)) ?_;refine eK ?_;refine A3 (AK A9 rfl (HS.out _ (eX Ae (fun b h=>bW h)) Ae) (fun _ _ h=>h.ret)) rfl ?_ ?_;rotate_left;intro a8 a9 ay
     rotate_right 1
     rintro _ a1 ⟨ao,⟨⟨⟩,⟨ap,⟨aq,ab⟩⟩⟩⟩;revert F h4 N sx;refine eZ ab ?_;intro a2 F h4 N sx;clear rx ab;refine Ak (Af (Ag (Aj (C1 V7 (C1 Mv (Ak ?_))))));rotate_left;refine AS (AE (AE (AS (AB ?_))));rotate_left
    . exact AI (j+1) sB ⟨ao,Ab,aq,Ae,Ae,F,V _ ap⟩ Ab
    . obtain ⟨er,g1,g2,g3⟩:=ay;exact bX ⟨_,rfl,er,U _ g1,g2,F.fr g3 (fun k hk=>bW (fun h=>hk (bW h)))⟩
 . obtain rfl:j=l.length:=by omega
   rw [List.drop_of_length_le Ab] at O;rw [O];refine cS (C1 V3 (cT (Ai (Ds (Eg (A8 (A8 (BQ (Bs rfl ?_)))))))));exact bW ⟨Y,rfl,rfl,h1.less HR.out.sub (fun k=>bW),F⟩
end
section
variable {c:RC} {P P':nP} {w w':wD} {r:Rn} {T:nP}
def Run.lt (h:Run c P w r) : ∀k,P k->k<w.heap.size:=fun k F=>by
 obtain ⟨_,_,h⟩:=h;exact (h.off k F).2
def StOk.kid {ps:List PD} {k n:Int} {s:lB} {l:List Nd} (h:StOk ps (.mk k n s l)) {i:Nat} {t:Nd} (F:l[i]? = some t):StOk ps t:=by
 obtain ⟨G,L,M⟩:=h;obtain ⟨-,-,-,-,-,-,N⟩:=G;have:=DP (dL F);simp only [fF] at L;exact ⟨BF N _ (dL F),Ab,JZ M.2 F⟩
def Wg (hc:c.fuel<=10000) {d:Nat} (IH:Fb c d) (b:Bool) {n:Int} {s:lB} {x y z u:Nd} (hx:x.isExpr=true) (hy:y.isBlock=true) (hz:z.isBlock=true) (hu:u.isExpr=true) (ai:StOk c.g.procs (.mk 52 n s [x,y,z,u])) (a:oA) (m:Nat) (w:wD)
 (an:((BL (if b then u else x) r).bind fun p=>(AD (Au c.g.procs d) b (if p.1 then y else z) p.2).bind (Bp (if b then x else u) p.1))≠.error (-1)) (hs:(Nd.mk 52 n s [x,y,z,u]).sits P w a) (h:Run c P w r) :
 Calls prog 126 #[.pointer (some ⟨c.rb,0,none⟩),(Nd.mk 52 n s [x,y,z,u]).val a m,.bool b] w (D0 c P ((BL (if b then u else x) r).bind fun p=>(AD (Au c.g.procs d) b (if p.1 then y else z) p.2).bind (Bp (if b then x else u) p.1)) w):=by
 have X:=eU w;have HR:=bU h;have M:=h.lt;clear h;have hs:rowSits P w [x,y,z,u] a:=hs;obtain ⟨kb,ko,rfl,V,aj⟩:=BA hs AR;obtain ⟨ya,yc,O,sy⟩:=aj 1 y rfl;obtain ⟨za,zc,U,sz⟩:=aj 2 z rfl;have b5:=ai.kid (i:=0) rfl;have a0:=ai.kid (i:=1) rfl;have a1:=ai.kid (i:=2) rfl;have b6:=ai.kid (i:=3) rfl;have HE:=bU (fun w1 h1 h2=>R7 (k:=52) (n:=n) (s:=s) (l:=[x,y,z,u]) (P:=P) AR AR b (some ⟨kb,ko,none⟩) m w1 h1 h2);have hf:(if b then u else x).isExpr=true:=by cases b<;>assumption
 have hg:(if b then x else u).isExpr=true:=by cases b<;>assumption
 have a2:StOk c.g.procs (if b then u else x):=by cases b<;>assumption
 have a3:StOk c.g.procs (if b then x else u):=by cases b<;>assumption
 simp only [show Bw [x,y,z,u] ([x,y,z,u].length-1)=u from rfl,show Bw [x,y,z,u] 0=x from rfl] at HE;generalize (if b then u else x)=f at *;generalize (if b then x else u)=g at *;clear aj ai;obtain ⟨fk,fn,fs,fl⟩:=f;obtain ⟨gk,gn,gs,gl⟩:=g;obtain ⟨yk,yn,ys,yl⟩:=y;obtain ⟨zk,zn,zs,zl⟩:=z;replace O:Row w ⟨kb,ko+1*4,none⟩ [.int .u8 yk,.int .i64 yn,str ys,.slice ya yl.length yc]:=O;replace U:Row w ⟨kb,ko+2*4,none⟩ [.int .u8 zk,.int .i64 zn,str zs,.slice za zl.length zc]:=U;change Calls prog _ #[_,.agg #[.int .u8 52,.int .i64 n,str s,.slice (some ⟨kb,ko,none⟩) 4 m],_] w _;have b7:=M kb V;obtain ⟨Z,hZ⟩ : ∃Z,Z=((BL (.mk fk fn fs fl) r).bind fun p=>(AD (Au c.g.procs d) b (if p.1 then .mk yk yn ys yl else .mk zk zn zs zl) p.2).bind (Bp (.mk gk gn gs gl) p.1)):=⟨_,rfl⟩
 rw [<-hZ] at an ⊢;have x1 : ∀er,BL (.mk fk fn fs fl) r = .error er->Z = .error er:=fun er e=>by rw [hZ,e];rfl
 have x2 : ∀q r1,BL (.mk fk fn fs fl) r = .ok (q,r1)->Z=(AD (Au c.g.procs d) b (if q then .mk yk yn ys yl else .mk zk zn zs zl) r1).bind (Bp (.mk gk gn gs gl) q):=fun q r1 e=>by rw [hZ,e];rfl
 clear hZ;refine Ac func126 ntmps126 rfl rfl ?_;refine cS (eB [_,_,_,_] ?_);intro b1 w2 h4 x5 p6 z7;revert X sy sz;refine eE x5 ?_;intro X sy sz;clear hs;revert hs O U;refine eE x5 ?_;intro hs O U;refine eK ?_;refine eQ rfl (HE.out _ Ae (fun k hk=>by have:=M k hk;omega)) ?_;rintro _ b8 ⟨a8,⟨m9,⟨aq,⟨ar,⟨⟨⟩,⟨G,⟨L,a4⟩⟩⟩⟩⟩⟩⟩;revert h4 X sy sz hs O U;refine eY a4 ?_;intro b9 h4 X sy sz hs O U;refine eK ?_;refine eA [_,_,_,_] ?_;intro ca cb ao a5 cc cd;revert G L h4 X sy sz hs O U;refine eE a5 ?_;intro G L h4 X sy sz hs O U;refine eA [_,_,_,_] ?_;intro ce cf ap a6 cg ch;revert ao G L h4 X sy sz hs O U;refine eE a6 ?_;intro ao G L h4 X sy sz hs O U;refine eS [_,_,_,_] ao ?_;intro ci N f35 cj;have ap:=ap.fr f35 Ab;have G:=eW G f35 (fun b hb h=>by (have h1:=M b hb;have e:b=_:=h;omega));have L:=eW L f35 (fun b hb h=>by (have h1:=M b hb;have e:b=_:=h;omega));revert h4 X;refine eF f35 ?_;intro h4 X;have sy:=eW sy f35 (fun b hb h=>by (have h1:=M b hb;have e:b=_:=h;omega));have sz:=eW sz f35 (fun b hb h=>by (have h1:=M b hb;have e:b=_:=h;omega));have hs:=fO hs f35 (fun b hb h=>by (have h1:=M b hb;have e:b=_:=h;omega));revert O U;refine eF f35 ?_;intro O U;refine eS [_,_,_,_] ap ?_;intro ak aa ac ck;have N:=N.fr ac Ab;have G:=eW G ac (fun b hb h=>by (have h1:=M b hb;have e:b=_:=h;omega));have L:=eW L ac (fun b hb h=>by (have h1:=M b hb;have e:b=_:=h;omega));revert h4 X;refine eF ac ?_;intro h4 X;have sy:=eW sy ac (fun b hb h=>by (have h1:=M b hb;have e:b=_:=h;omega));have sz:=eW sz ac (fun b hb h=>by (have h1:=M b hb;have e:b=_:=h;omega));have hs:=fO hs ac (fun b hb h=>by (have h1:=M b hb;have e:b=_:=h;omega));revert O U;refine eF ac ?_;intro O U;refine cT ?_
 have h1:=HR.out.more X;have F:Fr (fun k=> ¬P k) w ak:=fE X;have bb:=X.size;clear X hs;have HH:=bU (fun w1 h1 h2=>OQ (c:=c) (P:=Ci P w ak) (r:=r) hc _ a2.wf hf a8 m9 w1 h1 h2);unfold Ya at HH;have HY:=bU (fun q r1 (e:BL (.mk fk fn fs fl) r = .ok (q,r1)) (hq:q=true) w1 h1 h2=>IH (Ci P w ak) b _ r1 ya yc w1 hy a0 (fun e2=>an (by rw [x2 _ _ e,hq];simp only [if_true];rw [e2];rfl)) h1 h2);have HZ:=bU (fun q r1 (e:BL (.mk fk fn fs fl) r = .ok (q,r1)) (hq:q=false) w1 h1 h2=>IH (Ci P w ak) b _ r1 za zc w1 hz a1 (fun e2=>an (by rw [x2 _ _ e,hq];simp only [dK,if_false];rw [e2];rfl)) h1 h2);have HA:=bU (fun q r2 w1 h1 h2=>QB (c:=c) (P:=Ci P w ak) (r:=r2) hc q _ a3.wf hg aq ar w1 h1 h2);unfold D0 at HY HZ HA
 focus
  refine eK ?_;refine A3 (AK A9 rfl (HH.out _ (eX Ae (fun b h=>bW h)) Ae) (fun _ _ h=>h.ret)) rfl ?_ ?_;rotate_left;intro cl cm a7
  rotate_right 1
  rintro _ bc ⟨bd,⟨be,⟨⟨⟩,⟨ab,⟨bf,ad⟩⟩⟩⟩⟩;revert aa N G L h4 sy sz;refine eZ ad ?_;intro bg aa N G L h4 sy sz;have O:=fK O ad (fun h=>h (bW V));have U:=fK U ad (fun h=>h (bW V));have F:=fJ F ad (fun k hk=>bW (fun h=>hk (bW h)));refine C1 Pa (cT (Ai (cS (C1 Mv (cT ?_)))));refine Ge rfl (fun Y=>?_) (fun Y=>?_);refine eK ?_;refine A3 (AK A9 rfl (HY.out _ _ Ae Ae _ (eX Ae (fun b h=>bW h)) Ae) (fun _ _ h=>h.ret)) rfl ?_ ?_;rotate_left;intro bh bi au
  rotate_right 1
  rintro _ bj ⟨bk,⟨⟨⟩,⟨al,⟨bl,ae⟩⟩⟩⟩;revert aa N G L h4 sy sz;refine eZ ae ?_;intro bm aa N G L h4 sy sz;have O:=fK O ae (fun h=>h (bW V));have U:=fK U ae (fun h=>h (bW V));have F:=fJ F ae (fun k hk=>bW (fun h=>hk (bW h)));refine eK ?_;refine A3 (AK A9 rfl (HA.out _ _ _ (eX Ae (fun b h=>bW h)) Ae) (fun _ _ h=>h.ret)) rfl ?_ ?_;rotate_left;intro bn bo av
  rotate_right 1
  rintro _ bp ⟨bq,⟨⟨⟩,⟨br,⟨aw,af⟩⟩⟩⟩;revert aa N G L h4 sy sz;refine eZ af ?_;intro bs aa N G L h4 sy sz;have O:=fK O af (fun h=>h (bW V));have U:=fK U af (fun h=>h (bW V));have F:=fJ F af (fun k hk=>bW (fun h=>hk (bW h)));refine Ak (Bs rfl ?_);rotate_left;refine AB ?_;rotate_left;refine AE (AB ?_);rotate_left;refine eK ?_;refine A3 (AK A9 rfl (HZ.out _ _ Ae Ae _ (eX Ae (fun b h=>bW h)) Ae) (fun _ _ h=>h.ret)) rfl ?_ ?_;rotate_left;intro bt bu ax
  rotate_right 1
  rintro _ bv ⟨bw,⟨⟨⟩,⟨am,⟨bx,ag⟩⟩⟩⟩;revert aa N G L h4 sy sz;refine eZ ag ?_;intro bz aa N G L h4 sy sz;have O:=fK O ag (fun h=>h (bW V));have U:=fK U ag (fun h=>h (bW V));have F:=fJ F ag (fun k hk=>bW (fun h=>hk (bW h)));refine eK ?_;refine A3 (AK A9 rfl (HA.out _ _ _ (eX Ae (fun b h=>bW h)) Ae) (fun _ _ h=>h.ret)) rfl ?_ ?_;rotate_left;intro b0 b2 ay
  rotate_right 1
  rintro _ a9 ⟨b3,⟨⟨⟩,⟨b4,⟨az,ah⟩⟩⟩⟩;revert aa N G L h4 sy sz;refine eZ ah ?_;intro ba aa N G L h4 sy sz;have O:=fK O ah (fun h=>h (bW V));have U:=fK U ah (fun h=>h (bW V));have F:=fJ F ah (fun k hk=>bW (fun h=>hk (bW h)));refine Ak (Bs rfl ?_);rotate_left;refine AB ?_;rotate_left;refine AE (AB ?_);rotate_left;refine AE (AB ?_);rotate_left
 . subst Y;exact Fa aw F HR.out.sub (fun k=>bW) (by rw [x2 _ _ ab];simp only [if_true,dK,if_false,al,cJ];assumption)
 . subst Y;exact BC av F (fun k=>bW) (fun er e=>by rw [x2 _ _ ab];simp only [if_true,dK,if_false,al,cJ];exact e)
 . subst Y;exact BC au F (fun k=>bW) (fun er e=>by rw [x2 _ _ ab];simp only [if_true,dK,if_false,e,cJ])
 . subst Y;exact Fa az F HR.out.sub (fun k=>bW) (by rw [x2 _ _ ab];simp only [if_true,dK,if_false,am,cJ];assumption)
 . subst Y;exact BC ay F (fun k=>bW) (fun er e=>by rw [x2 _ _ ab];simp only [if_true,dK,if_false,am,cJ];exact e)
 . subst Y;exact BC ax F (fun k=>bW) (fun er e=>by rw [x2 _ _ ab];simp only [if_true,dK,if_false,e,cJ])
 . exact BC a7 F (fun k=>bW) x1
def Zw (hc:c.fuel<=10000) {d:Nat} (IH:Fb c d) (b:Bool) {n:Int} {s:lB} {x y z u:Nd} (hx:x.isExpr=true) (hy:y.isBlock=true) (bb:z.isBlock=true) (hu:u.isExpr=true) (al:StOk c.g.procs (.mk 53 n s [x,y,z,u])) (a:oA) (m:Nat) (w:wD)
 (am:((Bp (if b then u else x) true r).bind (Cs (AD (Au c.g.procs d) b y) (AD (Au c.g.procs d) b z) (if b then x else u) (if b then u else x) d))≠.error (-1)) (hs:(Nd.mk 53 n s [x,y,z,u]).sits P w a) (h:Run c P w r) :
 Calls prog 127 #[.pointer (some ⟨c.rb,0,none⟩),(Nd.mk 53 n s [x,y,z,u]).val a m,.bool b] w (D0 c P ((Bp (if b then u else x) true r).bind (Cs (AD (Au c.g.procs d) b y) (AD (Au c.g.procs d) b z) (if b then x else u) (if b then u else x) d)) w):=by
 have X:=eU w;have HR:=bU h;have V:=h.lt;clear h;have hs:rowSits P w [x,y,z,u] a:=hs;obtain ⟨kb,ko,rfl,aa,an⟩:=BA hs AR;obtain ⟨ya,yc,N,Y⟩:=an 1 y rfl;obtain ⟨za,zc,O,sz⟩:=an 2 z rfl;have ca:=al.kid (i:=0) rfl;have bc:=al.kid (i:=1) rfl;have bd:=al.kid (i:=2) rfl;have cb:=al.kid (i:=3) rfl;have HE:=bU (fun w1 h1 h2=>R7 (k:=53) (n:=n) (s:=s) (l:=[x,y,z,u]) (P:=P) AR AR b (some ⟨kb,ko,none⟩) m w1 h1 h2);have hf:(if b then u else x).isExpr=true:=by cases b<;>assumption
 have hg:(if b then x else u).isExpr=true:=by cases b<;>assumption
 have be:StOk c.g.procs (if b then u else x):=by cases b<;>assumption
 have bf:StOk c.g.procs (if b then x else u):=by cases b<;>assumption
 simp only [show Bw [x,y,z,u] ([x,y,z,u].length-1)=u from rfl,show Bw [x,y,z,u] 0=x from rfl] at HE;generalize (if b then u else x)=f at *;generalize (if b then x else u)=g at *;clear an al;obtain ⟨fk,fn,fs,fl⟩:=f;obtain ⟨gk,gn,gs,gl⟩:=g;obtain ⟨yk,yn,ys,yl⟩:=y;obtain ⟨zk,zn,zs,zl⟩:=z;replace N:Row w ⟨kb,ko+1*4,none⟩ [.int .u8 yk,.int .i64 yn,str ys,.slice ya yl.length yc]:=N;replace O:Row w ⟨kb,ko+2*4,none⟩ [.int .u8 zk,.int .i64 zn,str zs,.slice za zl.length zc]:=O;change Calls prog _ #[_,.agg #[.int .u8 53,.int .i64 n,str s,.slice (some ⟨kb,ko,none⟩) 4 m],_] w _;have cc:=V kb aa;obtain ⟨B1,av⟩ : ∃B1,B1=AD (Au c.g.procs d) b (.mk yk yn ys yl):=⟨_,rfl⟩;obtain ⟨B2,aw⟩ : ∃B2,B2=AD (Au c.g.procs d) b (.mk zk zn zs zl):=⟨_,rfl⟩
 rw [<-av,<-aw] at am ⊢;obtain ⟨Z,hZ⟩ : ∃Z,Z=((Bp (.mk fk fn fs fl) true r).bind (Cs B1 B2 (.mk gk gn gs gl) (.mk fk fn fs fl) d)):=⟨_,rfl⟩
 rw [<-hZ] at am ⊢;have x1 : ∀er,Bp (.mk fk fn fs fl) true r = .error er->Z = .error er:=fun er e=>by rw [hZ,e];rfl
 have x2 : ∀r1,Bp (.mk fk fn fs fl) true r = .ok r1->Z=Cs B1 B2 (.mk gk gn gs gl) (.mk fk fn fs fl) d r1:=fun r1 e=>by rw [hZ,e];rfl
 clear hZ;refine Ac func127 ntmps127 rfl rfl ?_;refine cS (eB [_,_,_,_] ?_);intro b1 w2 h4 x5 p6 z7;revert X Y sz;refine eE x5 ?_;intro X Y sz;clear hs;revert hs N O;refine eE x5 ?_;intro hs N O;refine eK ?_;refine eQ rfl (HE.out _ Ae (fun k hk=>by have:=V k hk;omega)) ?_;rintro _ cd ⟨a8,⟨m9,⟨ao,⟨aq,⟨⟨⟩,⟨G,⟨L,bg⟩⟩⟩⟩⟩⟩⟩;revert h4 X Y sz hs N O;refine eY bg ?_;intro ce h4 X Y sz hs N O;refine eK ?_;refine eA [_,_,_,_] ?_;intro az cf ax bh cg ch;revert G L h4 X Y sz hs N O;refine eE bh ?_;intro G L h4 X Y sz hs N O;refine eA [_,_,_,_] ?_;intro a0 ci ay bi cj ck;revert ax G L h4 X Y sz hs N O;refine eE bi ?_;intro ax G L h4 X Y sz hs N O;refine eS [_,_,_,_] ax ?_;intro cl M f35 cm;have ay:=ay.fr f35 Ab;have G:=eW G f35 (fun b hb h=>by (have h1:=V b hb;have e:b=_:=h;omega));have L:=eW L f35 (fun b hb h=>by (have h1:=V b hb;have e:b=_:=h;omega));revert h4 X;refine eF f35 ?_;intro h4 X;have Y:=eW Y f35 (fun b hb h=>by (have h1:=V b hb;have e:b=_:=h;omega));have sz:=eW sz f35 (fun b hb h=>by (have h1:=V b hb;have e:b=_:=h;omega));have hs:=fO hs f35 (fun b hb h=>by (have h1:=V b hb;have e:b=_:=h;omega));revert N O;refine eF f35 ?_;intro N O;refine eS [_,_,_,_] ay ?_;intro ak U ab cn;have M:=M.fr ab Ab;have G:=eW G ab (fun b hb h=>by (have h1:=V b hb;have e:b=_:=h;omega));have L:=eW L ab (fun b hb h=>by (have h1:=V b hb;have e:b=_:=h;omega));revert h4 X;refine eF ab ?_;intro h4 X;have Y:=eW Y ab (fun b hb h=>by (have h1:=V b hb;have e:b=_:=h;omega));have sz:=eW sz ab (fun b hb h=>by (have h1:=V b hb;have e:b=_:=h;omega));have hs:=fO hs ab (fun b hb h=>by (have h1:=V b hb;have e:b=_:=h;omega));revert N O;refine eF ab ?_;intro N O;refine cT ?_
 have h1:=HR.out.more X;have F:Fr (fun k=> ¬P k) w ak:=fE X;have bl:=X.size;clear X hs;have HH:=bU (fun r1 w1 h1 h2=>OQ (c:=c) (P:=Ci P w ak) (r:=r1) hc _ bf.wf hg ao aq w1 h1 h2);unfold Ya at HH;have HA:=bU (fun q r2 w1 h1 h2=>QB (c:=c) (P:=Ci P w ak) (r:=r2) hc q _ be.wf hf a8 m9 w1 h1 h2);unfold D0 at HA
 focus
  refine eK ?_;refine A3 (AK A9 rfl (HA.out _ _ _ (eX Ae (fun b h=>bW h)) Ae) (fun _ _ h=>h.ret)) rfl ?_ ?_;rotate_left;intro co cp bj
  rotate_right 1
  rintro _ bm ⟨a1,⟨⟨⟩,⟨ar,⟨ap,ae⟩⟩⟩⟩;revert U M G L h4 Y sz;refine eZ ae ?_;intro bn U M G L h4 Y sz;have N:=fK N ae (fun h=>h (bW aa));have O:=fK O ae (fun h=>h (bW aa));have F:=fJ F ae (fun k hk=>bW (fun h=>hk (bW h)));refine cT ?_;rotate_left;refine AE (AB ?_);rotate_left
 . refine Av ?_;have a2:=x2 _ ar;refine A1 (ι:=Nat) (fun _=>[(0,.pointer (some ⟨c.rb,0,none⟩)),(2,.bool b),(4,.pointer (some ⟨b1,0,none⟩)),(6,.pointer (some ⟨az,0,none⟩)),(7,.pointer (some ⟨a0,0,none⟩))])
    (fun j w'=> ∃rj,Run c (Ci P w ak) w' rj/\Blk w' b1 [.int .u8 53,.int .i64 n,str s,.slice (some ⟨kb,ko,none⟩) 4 m]/\Blk w' az [.int .u8 fk,.int .i64 fn,str fs,.slice a8 fl.length m9]/\Blk w' a0 [.int .u8 gk,.int .i64 gn,str gs,.slice ao gl.length aq]/\Row w' ⟨kb,ko+1*4,none⟩ [.int .u8 yk,.int .i64 yn,str ys,.slice ya yl.length yc]/\Row w' ⟨kb,ko+2*4,none⟩ [.int .u8 zk,.int .i64 zn,str zs,.slice za zl.length zc] /\
     (Nd.mk fk fn fs fl).sits P w' a8/\(Nd.mk gk gn gs gl).sits P w' ao/\(Nd.mk yk yn ys yl).sits P w' ya/\(Nd.mk zk zn zs zl).sits P w' za/\Fr (fun k=> ¬P k) w w'/\Z=Cs B1 B2 (.mk gk gn gs gl) (.mk fk fn fs fl) j rj)
    (fun j=>j) d sB ⟨a1,ap,h4,M,U,N,O,G,L,Y,sz,F,a2⟩ ?_
   clear ap h4 M U N O G L Y sz F a2 ar h1;rintro j w1 ⟨rj,ap,h4,M,U,N,O,G,L,Y,sz,F,hz⟩;cases j with
   | zero=>exact absurd hz (fun e=>am e)
   | succ j=>
    have y1 : ∀er,B1 rj = .error er->Z = .error er:=fun er e=>by rw [hz];simp only [Cs,e,cJ]
    have y2 : ∀r1 er,B1 rj = .ok r1->BL (.mk gk gn gs gl) r1 = .error er->Z = .error er:=fun r1 er e e2=>by rw [hz];simp only [Cs,e,e2,cJ]
    have y3 : ∀r1 r2,B1 rj = .ok r1->BL (.mk gk gn gs gl) r1 = .ok (true,r2)->Z = .ok r2:=fun r1 r2 e e2=>by rw [hz];simp only [Cs,e,e2,cJ,if_true]
    have y4 : ∀r1 r2,B1 rj = .ok r1->BL (.mk gk gn gs gl) r1 = .ok (false,r2)->Z=(B2 r2).bind fun r=>(Bp (.mk fk fn fs fl) false r).bind (Cs B1 B2 (.mk gk gn gs gl) (.mk fk fn fs fl) j):=fun r1 r2 e e2=>by rw [hz];simp only [Cs,e,e2,cJ,dK,if_false]
    have HY:=bU (fun w1 h1 h2=>IH (Ci P w ak) b _ rj ya yc w1 hy bc (fun e2=>am (y1 _ (by rw [av];exact e2))) h1 h2);have HZ:=bU (fun r1 q r2 (e:B1 rj = .ok r1) (e2:BL (.mk gk gn gs gl) r1 = .ok (q,r2)) (hq:q=false) w1 h1 h2=>IH (Ci P w ak) b _ r2 za zc w1 bb bd (fun e3=>am (by subst hq;rw [y4 _ _ e e2,aw,e3];rfl)) h1 h2);rw [<-av] at HY;rw [<-aw] at HZ;unfold D0 at HY HZ;clear hz
    focus
     refine eK ?_;refine A3 (AK A9 rfl (HY.out _ (eX Ae (fun b h=>bW h)) Ae) (fun _ _ h=>h.ret)) rfl ?_ ?_;rotate_left;intro cq cr bk
     rotate_right 1
     rintro _ bo ⟨bp,⟨⟨⟩,⟨ac,⟨bq,af⟩⟩⟩⟩;revert h4 M U;refine eZ af ?_;intro br h4 M U;have N:=fK N af (fun h=>h (bW aa));have O:=fK O af (fun h=>h (bW aa));revert G L Y sz F;refine eF af ?_;intro G L Y sz F;refine eK ?_;refine A3 (AK A9 rfl (HH.out _ _ (eX Ae (fun b h=>bW h)) Ae) (fun _ _ h=>h.ret)) rfl ?_ ?_;rotate_left;intro bs bt a3
     rotate_right 1
     rintro _ bu ⟨bv,⟨bw,⟨⟨⟩,⟨ag,⟨a4,ah⟩⟩⟩⟩⟩;revert h4 M U;refine eZ ah ?_;intro bx h4 M U;have N:=fK N ah (fun h=>h (bW aa));have O:=fK O ah (fun h=>h (bW aa));revert G L Y sz F;refine eF ah ?_;intro G L Y sz F;refine cT ?_;refine Ge rfl (fun ad=>?_) (fun ad=>?_);refine eK ?_;refine Oh rfl ?_;rotate_left;refine eK ?_;refine A3 (AK A9 rfl (HZ.out _ _ _ Ae Ae Ae _ (eX Ae (fun b h=>bW h)) Ae) (fun _ _ h=>h.ret)) rfl ?_ ?_;rotate_left;intro bz b0 a5
     rotate_right 1
     rintro _ b2 ⟨b3,⟨⟨⟩,⟨au,⟨b4,ai⟩⟩⟩⟩;revert h4 M U;refine eZ ai ?_;intro b5 h4 M U;have N:=fK N ai (fun h=>h (bW aa));have O:=fK O ai (fun h=>h (bW aa));revert G L Y sz F;refine eF ai ?_;intro G L Y sz F;refine eK ?_;refine A3 (AK A9 rfl (HA.out _ _ _ (eX Ae (fun b h=>bW h)) Ae) (fun _ _ h=>h.ret)) rfl ?_ ?_;rotate_left;intro b6 b7 a6
     rotate_right 1
     rintro _ b8 ⟨a7,⟨⟨⟩,⟨a9,⟨ba,aj⟩⟩⟩⟩;revert h4 M U;refine eZ aj ?_;intro b9 h4 M U;have N:=fK N aj (fun h=>h (bW aa));have O:=fK O aj (fun h=>h (bW aa));revert G L Y sz F;refine eF aj ?_;intro G L Y sz F;refine Ak (Af ?_);rotate_left;refine AS (AE (AS (AB ?_)));rotate_left;refine AE (AS (AE (AS (AB ?_))));rotate_left;refine AE (AE (AS (AE (AS (AB ?_)))));rotate_left;refine AE (AS (AE (AS (AB ?_))));rotate_left
    . subst ad;exact Fa a4 F HR.out.sub (fun k=>bW) (y3 _ _ ac ag)
    . subst ad;exact AI j sB ⟨a7,ba,Ae,Ae,Ae,Ae,Ae,Ae,Ae,Ae,Ae,F,by rw [y4 _ _ ac ag,au];simp only [cJ];rw [a9]⟩ Ab
    . subst ad;exact BC a6 F (fun k=>bW) (fun er e=>by rw [y4 _ _ ac ag,au];simp only [cJ];rw [e])
    . subst ad;exact BC a5 F (fun k=>bW) (fun er e=>by rw [y4 _ _ ac ag,e];rfl)
    . exact BC a3 F (fun k=>bW) (fun er e=>y2 _ _ ac e)
    . exact BC bk F (fun k=>bW) y1
 . exact BC bj F (fun k=>bW) x1
end
section
variable {c:RC} {P P':nP} {w w':wD} {r:Rn} {T:nP}
def EA {Z:Except Int Rn} {w1:wD} {h:List PanicEntry} {e:Int} (q:e≠0/\h=Mp e/\Ext w1 w') (F:Fr (fun k=> ¬P k) w w1) (G:e≠0->Z = .error e):D0 c P Z w (.panicked h) w':=
 bX ⟨_,rfl,e,G q.1,q.2.1,F.ext q.2.2⟩
def NS {Z:Except Int Rn} {X:Except Int Int} {w1:wD} {G:List PanicEntry} (q:Z4 X w1 G w') (F:Fr (fun k=> ¬P k) w w1) (e : ∀h,X = .error h->Z = .error h):D0 c P Z w (.panicked G) w':=by
 obtain ⟨h,L,M,N⟩:=q;exact bX ⟨_,rfl,h,e _ L,M,F.ext N⟩
def Run.wf (h:Run c P w r) : ∃K,r.st.WF K (1000+(c.fuel-r.rem)):=by
 obtain ⟨_,_,h⟩:=h;exact h.wf
def S6 (L:c.fuel<=10000) (G:Run c P w r) (P':nP) (v:VD) (M:v.kind=1\/v.kind=3) (N:v.len=0) (x:Int) (F:Rn) (e:A7 r = .ok F) (w1:wD) (h:Run c P' w1 F) :
 Calls prog 131 #[.pointer (some ⟨c.sb,0,none⟩),v.val,.int .i64 x] w1 (QC c P' F.rem (F.st.opens v x) w1):=by
 obtain ⟨O,rfl⟩:=C4 e;have U:=G.rem;exact Zt L v M N x w1 h (by simp only;omega) (m:=c.fuel-r.rem) G.wf (by simp only;omega)
def Yd (hc:c.fuel<=10000) {d:Nat} (IH:Fb c d) (b:Bool) {n:Int} {s:lB} {x y z:Nd} (hx:x.isExpr=true) (hy:y.isBlock=true) (c5:z.isExpr=true) (ax:StOk c.g.procs (.mk 54 n s [x,y,z])) (a:oA) (m:Nat) (w:wD)
 (a6:((A7 r).bind fun r=>(BH (if b then z else x) r).bind fun v=>(CI (·.opens ⟨s,1,0⟩ v) r).bind fun r=>(AD (Au c.g.procs d) b y r).bind fun r=>(A7 r).bind fun r=>(BH (if b then x else z) r).bind fun v=>CI (·.closes s v) r)≠.error (-1)) (hs:(Nd.mk 54 n s [x,y,z]).sits P w a) (h:Run c P w r) :
 Calls prog 128 #[.pointer (some ⟨c.rb,0,none⟩),(Nd.mk 54 n s [x,y,z]).val a m,.bool b] w (D0 c P ((A7 r).bind fun r=>(BH (if b then z else x) r).bind fun v=>(CI (·.opens ⟨s,1,0⟩ v) r).bind fun r=>(AD (Au c.g.procs d) b y r).bind fun r=>(A7 r).bind fun r=>(BH (if b then x else z) r).bind fun v=>CI (·.closes s v) r) w):=by
 have X:=eU w;have HR:=bU h;have ae:=h.lt;clear h;have hs:rowSits P w [x,y,z] a:=hs;obtain ⟨kb,ko,rfl,am,a0⟩:=BA hs AR;obtain ⟨ya,yc,O,U⟩:=a0 1 y rfl;have c6:=ax.kid (i:=0) rfl;have bu:=ax.kid (i:=1) rfl;have c7:=ax.kid (i:=2) rfl;have HE:=bU (fun w1 h1 h2=>R7 (k:=54) (n:=n) (s:=s) (l:=[x,y,z]) (P:=P) AR AR b (some ⟨kb,ko,none⟩) m w1 h1 h2);have hf:(if b then z else x).isExpr=true:=by cases b<;>assumption
 have hg:(if b then x else z).isExpr=true:=by cases b<;>assumption
 have bv:StOk c.g.procs (if b then z else x):=by cases b<;>assumption
 have bw:StOk c.g.procs (if b then x else z):=by cases b<;>assumption
 simp only [show Bw [x,y,z] ([x,y,z].length-1)=z from rfl,show Bw [x,y,z] 0=x from rfl] at HE;generalize (if b then z else x)=f at *;generalize (if b then x else z)=g at *;clear a0 ax;obtain ⟨fk,fn,fs,fl⟩:=f;obtain ⟨gk,gn,gs,gl⟩:=g;obtain ⟨yk,yn,ys,yl⟩:=y;replace O:Row w ⟨kb,ko+1*4,none⟩ [.int .u8 yk,.int .i64 yn,str ys,.slice ya yl.length yc]:=O;change Calls prog _ #[_,.agg #[.int .u8 54,.int .i64 n,str s,.slice (some ⟨kb,ko,none⟩) 3 m],_] w _;have c8:=ae kb am;obtain ⟨B1,a7⟩ : ∃B1,B1=AD (Au c.g.procs d) b (.mk yk yn ys yl):=⟨_,rfl⟩
 rw [<-a7] at a6 ⊢;obtain ⟨Z,hZ⟩ : ∃Z,Z=((A7 r).bind fun r=>(BH (.mk fk fn fs fl) r).bind fun v=>(CI (·.opens ⟨s,1,0⟩ v) r).bind fun r=>(B1 r).bind fun r=>(A7 r).bind fun r=>(BH (.mk gk gn gs gl) r).bind fun v=>CI (·.closes s v) r):=⟨_,rfl⟩
 rw [<-hZ] at a6 ⊢;refine Ac func128 ntmps128 rfl rfl ?_;refine cS (eB [_,_,_,_] ?_);intro b1 w2 h4 x5 p6 z7;have X:=X.ext x5;clear hs;revert hs U O;refine eE x5 ?_;intro hs U O;refine eK ?_;refine eQ rfl (HE.out _ Ae (fun k hk=>by have:=ae k hk;omega)) ?_;rintro _ c9 ⟨a8,⟨m9,⟨bi,⟨bj,⟨⟨⟩,⟨G,⟨L,bx⟩⟩⟩⟩⟩⟩⟩;revert h4 X hs U O;refine eY bx ?_;intro da h4 X hs U O;refine eK ?_;refine eA [_,_,_,_] ?_;intro db dc a9 bz dd de;revert G L h4 X hs U O;refine eE bz ?_;intro G L h4 X hs U O;refine eA [_,_,_,_] ?_;intro df dg ba b0 dh di;revert a9 G L h4 X hs U O;refine eE b0 ?_;intro a9 G L h4 X hs U O;refine eS [_,_,_,_] a9 ?_;intro dk M f35 dl;have ba:=ba.fr f35 Ab;have G:=eW G f35 (fun b hb h=>by (have h1:=ae b hb;have e:b=_:=h;omega));have L:=eW L f35 (fun b hb h=>by (have h1:=ae b hb;have e:b=_:=h;omega));revert h4 X;refine eF f35 ?_;intro h4 X;have hs:=fO hs f35 (fun b hb h=>by (have h1:=ae b hb;have e:b=_:=h;omega));have U:=eW U f35 (fun b hb h=>by (have h1:=ae b hb;have e:b=_:=h;omega));have O:=fK O f35 (by simp only;omega);refine eS [_,_,_,_] ba ?_;intro ab N aj dm;have M:=M.fr aj Ab;have G:=eW G aj (fun b hb h=>by (have h1:=ae b hb;have e:b=_:=h;omega));have L:=eW L aj (fun b hb h=>by (have h1:=ae b hb;have e:b=_:=h;omega));revert h4 X;refine eF aj ?_;intro h4 X;have hs:=fO hs aj (fun b hb h=>by (have h1:=ae b hb;have e:b=_:=h;omega));have U:=eW U aj (fun b hb h=>by (have h1:=ae b hb;have e:b=_:=h;omega));have O:=fK O aj (by simp only;omega);refine cT ?_
 have h1:=HR.out.more X;have F:Fr (fun k=> ¬P k) w ab:=fE X;have ce:=X.size;clear X hs;have HS:=bU (fun r1 w1 h=>Mq (c:=c) (P:=Ci P w ab) (r:=r1) hc w1 h);unfold D0 at HS;have HV:=bU (fun r1 w1 h1 h2=>S3 (c:=c) (P:=Ci P w ab) (r:=r1) hc _ bv.wf hf a8 m9 P w1 h1 h2);have HU:=bU (fun r1 w1 h1 h2=>S3 (c:=c) (P:=Ci P w ab) (r:=r1) hc _ bw.wf hg bi bj P w1 h1 h2);have HO:=bU (fun r1 e v w1 h=>S6 hc HR.out (Ci P w ab) ⟨s,1,0⟩ (bW rfl) rfl v r1 e w1 h);unfold VD.val at HO;have HL:=bU (fun r1 v w1 h=>S4 (c:=c) (P:=Ci P w ab) (r:=r1) hc s v w1 h);have HC:=bU (fun e w1=>IE e (.pointer (some ⟨c.rb,0,none⟩)) w1);unfold R6 at HC;have HY:=bU (fun r1 v (e:A7 r = .ok r1) (e2:BH (.mk fk fn fs fl) r1 = .ok v) (e3:(r1.st.opens ⟨s,1,0⟩ v).1=0) w1 h1 h2=>IH (Ci P w ab) b _ ⟨(r1.st.opens ⟨s,1,0⟩ v).2,r1.rem⟩ ya yc w1 hy bu (fun e4=>a6 (by rw [hZ];simp only [e,e2,cJ,CI,e3,ne_eq,not_true,if_false];rw [a7,e4])) h1 h2);rw [<-a7] at HY;unfold D0 at HY
 focus
  refine eK ?_;refine A3 (AK A9 rfl (HS.out _ _ Ae) (fun _ _ h=>h.ret)) rfl ?_ ?_;rotate_left;intro dn dp b2
  rotate_right 1
  rintro _ a1 ⟨cf,⟨⟨⟩,⟨ac,⟨ag,an⟩⟩⟩⟩;revert N M G L h4 U;refine eZ an ?_;intro cg N M G L h4 U;have O:=fK O an (fun h=>h (bW am));have F:=fJ F an (fun k hk=>bW (fun h=>hk (bW h)));refine eK ?_;refine Ar (fun wz=>Fr ((fun k=> ¬(Ci P w ab k\/k=c.rb))) a1 wz) 12 (.pure 0 (.pure 1 (.pure 2 (.pure 3 (.pure 4 (.pure 5 (.pure 6 (.pure 7 (.pure 8 (.pure 9 (.fork 10 (.fork 11 .tail .none) .none))))))))))) mixed A9 (Aa Ah) ?_;intro bk a2 _;have V:(fun wz=>Fr ((fun k=> ¬(Ci P w ab k\/k=c.rb))) a1 wz) bk:=fE a2;simp only at V;have ay:=ag;have ao:=N;have ap:=M;have bb:=G;have bc:=L;have aq:=h4;have bl:=U;have bm:=O;revert ag N M G L h4 U O F;refine eY a2 ?_;intro ch ag N M G L h4 U O F;refine ⟨V,?_⟩;refine eT ?_;refine Tq rfl (An Ad rfl rfl rfl (fun wz hz=>fD (fB (Run.blk ay) hz (by first|omega|(dsimp only;omega))) rfl)) (Tq rfl Pf (Tq rfl (An Ad rfl rfl rfl (fun wz hz=>fD (fB aq hz (fun h=>h (bW (bX ⟨Ab,Ab⟩)))) rfl)) (Tq rfl (xB [_,_,_]) (Tq rfl Mv (Tq rfl (xL [_,_,_,_] (fun wz hz=>(fB ap hz (fun h=>h (bW (bX ⟨Ab,Ab⟩)))))) ?_)))));refine Pq rfl (AK A9 rfl (HV.out _ _ Ae Ae) (fun _ _ h=>h.ret)) rfl ?_ ?_ Aw;rotate_left;intro ci cj bn
  rotate_right 1
  rintro _ ck ⟨cl,⟨⟨⟩,⟨af,bo⟩⟩⟩;revert V ag N M G L h4 U O F;refine eY bo ?_;intro cm V ag N M G L h4 U O F;refine ⟨V,?_⟩;refine tC rfl rfl (HO.out _ Ae _ _ Ae) ?_;rintro _ cn ⟨⟨⟩,⟨a3,ad⟩⟩;revert V N M;refine eZ ad ?_;intro co V N M;have G:=eW G ad (fun b hb h=>h (bW (bW hb)));have L:=eW L ad (fun b hb h=>h (bW (bW hb)));have h4:=fB h4 ad (fun h=>h (bW (bX ⟨Ab,Ab⟩)));have U:=eW U ad (fun b hb h=>h (bW (bW hb)));have O:=fK O ad (fun h=>h (bW (bW am)));have F:=fJ F ad (fun k hk=>bW (fun h=>hk (bW (bW h))));refine ⟨V,?_⟩;refine At rfl ?_;refine A3 (AK A9 rfl (HC.out _ _) (fun _ _ h=>⟨_,h.1⟩)) rfl ?_ ?_;rotate_left;intro cp cq bp
  rotate_right 1
  rintro _ cr ⟨⟨⟩,⟨ah,bq⟩⟩;revert a3 N M G L h4 U O F;refine eY bq ?_;intro ct a3 N M G L h4 U O F;refine eK ?_;refine A3 (AK A9 rfl (HY.out _ _ Ae Ae Ae _ (eX Ae (fun b h=>bW h)) Ae) (fun _ _ h=>h.ret)) rfl ?_ ?_;rotate_left;intro cu cv br
  rotate_right 1
  rintro _ cw ⟨cx,⟨⟨⟩,⟨al,⟨cy,ar⟩⟩⟩⟩;revert N M G L h4 U;refine eZ ar ?_;intro cz N M G L h4 U;have O:=fK O ar (fun h=>h (bW am));have F:=fJ F ar (fun k hk=>bW (fun h=>hk (bW h)));refine eK ?_;refine A3 (AK A9 rfl (HS.out _ _ Ae) (fun _ _ h=>h.ret)) rfl ?_ ?_;rotate_left;intro c0 c1 bs
  rotate_right 1
  rintro _ a4 ⟨c2,⟨⟨⟩,⟨au,⟨ai,av⟩⟩⟩⟩;revert N M G L h4 U;refine eZ av ?_;intro c3 N M G L h4 U;have O:=fK O av (fun h=>h (bW am));have F:=fJ F av (fun k hk=>bW (fun h=>hk (bW h)));refine cT (Ar (fun wz=>Fr ((fun k=> ¬(Ci P w ab k\/k=c.rb))) a4 wz) 11 (.pure 0 (.pure 1 (.pure 2 (.pure 3 (.pure 4 (.pure 5 (.pure 6 (.pure 7 (.pure 8 (.fork 9 (.fork 10 .tail .none) .none)))))))))) mixed A9 Ah ?_);intro bt a5 _;have Y:(fun wz=>Fr ((fun k=> ¬(Ci P w ab k\/k=c.rb))) a4 wz) bt:=fE a5;simp only at Y;have az:=ai;have ao:=N;have ap:=M;have bb:=G;have bc:=L;have aq:=h4;have bl:=U;have bm:=O;revert ai N M G L h4 U O F;refine eY a5 ?_;intro c4 ai N M G L h4 U O F;refine ⟨Y,?_⟩;refine eT ?_;refine Tq rfl (An Ad rfl rfl rfl (fun wz hz=>fD (fB (Run.blk az) hz (by first|omega|(dsimp only;omega))) rfl)) (Tq rfl Pf (Tq rfl (An Ad rfl rfl rfl (fun wz hz=>fD (fB aq hz (fun h=>h (bW (bX ⟨Ab,Ab⟩)))) rfl)) (Tq rfl Mv (Tq rfl (xL [_,_,_,_] (fun wz hz=>(fB ao hz (fun h=>h (bW (bX ⟨Ab,Ab⟩)))))) ?_))));refine Pq rfl (AK A9 rfl (HU.out _ _ Ae Ae) (fun _ _ h=>h.ret)) rfl ?_ ?_ Aw;rotate_left;intro b3 b4 bd
  rotate_right 1
  rintro _ b5 ⟨b6,⟨⟨⟩,⟨aw,be⟩⟩⟩;revert Y ai N M G L h4 U O F;refine eY be ?_;intro b7 Y ai N M G L h4 U O F;refine ⟨Y,?_⟩;refine tC rfl rfl (HL.out _ _ _ Ae) ?_;rintro _ b8 ⟨⟨⟩,⟨ak,aa⟩⟩;revert Y N M;refine eZ aa ?_;intro b9 Y N M;have G:=eW G aa (fun b hb h=>h (bW (bW hb)));have L:=eW L aa (fun b hb h=>h (bW (bW hb)));have h4:=fB h4 aa (fun h=>h (bW (bX ⟨Ab,Ab⟩)));have U:=eW U aa (fun b hb h=>h (bW (bW hb)));have O:=fK O aa (fun h=>h (bW (bW am)));have F:=fJ F aa (fun k hk=>bW (fun h=>hk (bW (bW h))));refine ⟨Y,?_⟩;refine At rfl ?_;refine A3 (AK A9 rfl (HC.out _ _) (fun _ _ h=>⟨_,h.1⟩)) rfl ?_ ?_;rotate_left;intro ca cb bf
  rotate_right 1
  rintro _ cc ⟨⟨⟩,⟨bg,bh⟩⟩;revert ak N M G L h4 U O F;refine eY bh ?_;intro cd ak N M G L h4 U O F;refine Ak (Bs rfl ?_);rotate_left;refine AB ?_;rotate_left;refine AB ?_;rotate_left;refine AE (AB ?_);rotate_left;refine AE (AB ?_);rotate_left;refine AE (AB ?_);rotate_left;refine AE (AB ?_);rotate_left;refine AE (AB ?_);rotate_left
 . exact Fa ak F HR.out.sub (fun k=>bW) (by rw [hZ];simp only [ac,af,ah,al,au,aw,bg,cJ,CI,ne_eq,not_true,not_false_iff,if_false,if_true])
 . exact EA bf F (fun e=>by rw [hZ];simp only [ac,af,ah,al,au,aw,cJ,CI,ne_eq,not_true,not_false_iff,if_false,if_true];rw [AG e])
 . exact NS bd F (fun er e=>by rw [hZ];simp only [ac,af,ah,al,au,e,cJ,CI,ne_eq,not_true,not_false_iff,if_false,if_true])
 . exact BC bs F (fun k=>bW) (fun er e=>by rw [hZ];simp only [ac,af,ah,al,e,cJ,CI,ne_eq,not_true,not_false_iff,if_false,if_true])
 . exact BC br F (fun k=>bW) (fun er e=>by rw [hZ];simp only [ac,af,ah,e,cJ,CI,ne_eq,not_true,not_false_iff,if_false,if_true])
 . exact EA bp F (fun e=>by rw [hZ];simp only [ac,af,cJ,CI,ne_eq,not_true,not_false_iff,if_false,if_true];rw [AG e])
 . exact NS bn F (fun er e=>by rw [hZ];simp only [ac,e,cJ,CI,ne_eq,not_true,not_false_iff,if_false,if_true])
 . exact BC b2 F (fun k=>bW) (fun er e=>by rw [hZ];simp only [e,cJ,CI,ne_eq,not_true,not_false_iff,if_false,if_true])
end
section
variable {c:RC} {P P':nP} {w w':wD} {r:Rn} {T:nP}
def Wh (hc:c.fuel<=10000) {d:Nat} (IH:Fb c d) (b:Bool) {n:Int} {s:List UInt8} {y:Nd} (hy:y.isBlock=true) (az:StOk c.g.procs (.mk 55 n s [y])) (a:Option Addr) (m:Nat) (w:World)
 (a0:Au c.g.procs (d+1) b (.mk 55 n s [y]) r≠.error (-1)) (hs:(Nd.mk 55 n s [y]).sits P w a) (h:Run c P w r) :
 Calls prog 108 #[.pointer (some ⟨c.rb,0,none⟩),(Nd.mk 55 n s [y]).val a m,.bool b] w (D0 c P (Au c.g.procs (d+1) b (.mk 55 n s [y]) r) w):=by
 have X:=eU w;have HR:=bU h;have a8:=h.lt;clear h;have hs:rowSits P w [y] a:=hs;obtain ⟨kb,ko,ya,yc,rfl,aj,M,N⟩:=Vx hs;have a9:=az.kid (i:=0) rfl;clear az;obtain ⟨B1,ay⟩ : ∃B1,B1=AD (Au c.g.procs d) b y:=⟨_,rfl⟩;obtain ⟨Z,hZ⟩ : ∃Z,Z=Au c.g.procs (d+1) b (.mk 55 n s [y]) r:=⟨_,rfl⟩
 rw [<-hZ] at a0 ⊢
 replace hZ:Z=(A7 r).bind fun r=>(CI (·.opens ⟨s,3,0⟩ 0) r).bind fun r=>(B1 r).bind fun r=>(A7 r).bind (CI (·.closes s 0)):=by
  rw [hZ,ay];simp only [Au,show ¬((55:Int)=52) by decide,show ¬((55:Int)=53) by decide,show ¬((55:Int)=54) by decide,if_true,if_false]
  rfl
 obtain ⟨yk,yn,ys,yl⟩:=y;replace M:Row w ⟨kb,ko+0*4,none⟩ [.int .u8 yk,.int .i64 yn,str ys,.slice ya yl.length yc]:=M
 change Calls prog _ #[_,.agg #[.int .u8 55,.int .i64 n,str s,.slice (some ⟨kb,ko,none⟩) 1 m],_] w _
 have b3:=a8 kb aj;refine Ac func108 ntmps108 rfl rfl ?_
 refine cS ?_;refine eB [_,_,_,_] ?_;intro b1 w2 O x5 p6 z7;replace X:=X.ext x5;clear hs;revert hs N M;refine eE x5 ?_;intro hs N M;clear x5;refine cT ?_
 have h1:=HR.out.more X;have F:Fr (fun k=> ¬P k) w w2:=fE X;clear X hs;have HS:=bU (fun r1 w1 h=>Mq (c:=c) (P:=Ci P w w2) (r:=r1) hc w1 h)
 unfold D0 at HS
 have HO:=bU (fun r1 e w1 h=>S6 hc HR.out (Ci P w w2) ⟨s,3,0⟩ (bX rfl) rfl 0 r1 e w1 h)
 unfold VD.val at HO
 have HL:=bU (fun r1 w1 h=>S4 (c:=c) (P:=Ci P w w2) (r:=r1) hc s 0 w1 h);have HC:=bU (fun e w1=>IE e (.pointer (some ⟨c.rb,0,none⟩)) w1)
 unfold R6 at HC
 have HY:=bU (fun r1 (e:A7 r = .ok r1) (e3:(r1.st.opens ⟨s,3,0⟩ 0).1=0) w1 h1 h2=>IH (Ci P w w2) b _ ⟨(r1.st.opens ⟨s,3,0⟩ 0).2,r1.rem⟩ ya yc w1 hy a9 (fun e4=>a0 (by rw [hZ];simp only [e,cJ,CI,e3,ne_eq,not_true,if_false];rw [ay,e4])) h1 h2)
 rw [<-ay] at HY
 unfold D0 at HY
 focus
  refine cS (C1 Pg (C1 (Pl O) (cT (Av (cS (C1 V1 (C1 Pa (cT (Np (cS (C1 V1 ?_)))))))))));refine C1 Pa (cT (Np (cS (C1 V1 (C1 Pa (cT (Np (cS (C1 V1 (C1 Pa (cT ?_)))))))))));refine Ve (cS (C1 Mv ?_));refine A3 (AK A9 rfl (HS.out _ _ Ae) (fun _ _ h=>h.ret)) rfl ?_ ?_;rotate_left;intro b4 b5 ba
  rotate_right 1
  rintro _ au ⟨bb,⟨⟨⟩,⟨Y,⟨ak,aa⟩⟩⟩⟩;have bc:=aa.size;revert O N;refine eF aa ?_;intro O N;replace M:=fK M aa (fun h=>h (bW aj));replace F:=fJ F aa (fun k hk=>bW (fun h=>hk (bW h)));clear aa;refine cT (Ai ?_);refine Ar (fun wz=>Fr ((fun k=> ¬(Ci P w w2 k\/k=c.rb))) au wz) 9 (.pure 0 (.pure 1 (.pure 2 (.pure 3 (.pure 4 (.pure 5 (.pure 6 (.pure 7 (.fork 8 .tail .none))))))))) mixed A9 (Aa (Al Ah)) ?_;intro a1 ae _;have G:(fun wz=>Fr ((fun k=> ¬(Ci P w w2 k\/k=c.rb))) au wz) a1:=fE ae;simp only at G;have af:=ak;have ab:=O;have al:=N;have am:=M;have bd:=ae.size;revert ak O N M F;refine eE ae ?_;intro ak O N M F;clear ae;refine ⟨G,?_⟩;refine Tq rfl Mv (Tq rfl Mv (Tq rfl Pn (Tq rfl Pf ?_)));refine Tq rfl (An Ad rfl rfl rfl (fun wz hz=>fD (fB (Run.blk af) hz (by first|omega|(dsimp only;omega))) rfl)) ?_;refine Tq rfl Pf ?_;refine Tq rfl (An Ad rfl rfl rfl (fun wz hz=>fD (fB ab hz (fun h=>h (bW (bX ⟨Ab,Ab⟩)))) rfl)) ?_;refine Tq rfl (CA [_,_,_] Ad CY rfl rfl rfl rfl) ?_;refine Ax rfl (AU A9 rfl (HO.out _ Ae _ Ae) (fun _ _ h=>⟨_,h.1⟩)) rfl ?_ aFh Aw;rintro _ be ⟨⟨⟩,⟨av,U⟩⟩;have bf:=U.size
  revert G O;refine eF U ?_;intro G O;replace N:=eW N U (fun b hb h=>h (bW (bW hb)));replace M:=fK M U (fun h=>h (bW (bW aj)));replace F:=fJ F U (fun k hk=>bW (fun h=>hk (bW (bW h))));clear U;refine ⟨G,?_⟩;clear af ab al am G;refine At rfl ?_;refine A3 (AK A9 rfl (HC.out _ _) (fun _ _ h=>⟨_,h.1⟩)) rfl ?_ ?_;rotate_left;intro bg bh a2
  rotate_right 1
  rintro _ bi ⟨⟨⟩,⟨ag,an⟩⟩;have bj:=an.size;revert av O N M F;refine eE an ?_;intro av O N M F;clear an;refine cN (C1 Mv (C1 Pf (C1 (Pl O) (C1 Pi (Ce [_,_,_,_] Ad rfl rfl rfl M rfl rfl rfl (C1 Mv ?_))))));refine A3 (AK A9 rfl (HY.out _ Ae Ae _ (eX Ae (fun b h=>bW h)) Ae) (fun _ _ h=>h.ret)) rfl ?_ ?_;rotate_left;intro bk bl a3
  rotate_right 1
  rintro _ bm ⟨bn,⟨⟨⟩,⟨ao,⟨bo,ac⟩⟩⟩⟩;have bp:=ac.size;revert O N;refine eF ac ?_;intro O N;replace M:=fK M ac (fun h=>h (bW aj));replace F:=fJ F ac (fun k hk=>bW (fun h=>hk (bW h)));clear ac;refine cN (C1 Mv ?_);refine A3 (AK A9 rfl (HS.out _ _ Ae) (fun _ _ h=>h.ret)) rfl ?_ ?_;rotate_left;intro bq br a4
  rotate_right 1
  rintro _ aw ⟨bs,⟨⟨⟩,⟨ax,⟨ap,ad⟩⟩⟩⟩;have bt:=ad.size;revert O N;refine eF ad ?_;intro O N;replace M:=fK M ad (fun h=>h (bW aj));replace F:=fJ F ad (fun k hk=>bW (fun h=>hk (bW h)));clear ad;refine cT ?_;refine Ar (fun wz=>Fr ((fun k=> ¬(Ci P w w2 k\/k=c.rb))) aw wz) 8 (.pure 0 (.pure 1 (.pure 2 (.pure 3 (.pure 4 (.pure 5 (.pure 6 (.fork 7 .tail .none)))))))) mixed A9 (Al Ah) ?_;intro a5 ah _;have L:(fun wz=>Fr ((fun k=> ¬(Ci P w w2 k\/k=c.rb))) aw wz) a5:=fE ah;simp only at L;have ai:=ap;have ab:=O;have al:=N;have am:=M;have bu:=ah.size;revert ap O N M F;refine eE ah ?_;intro ap O N M F;clear ah;refine ⟨L,?_⟩;refine Tq rfl Mv (Tq rfl Mv (Tq rfl Pn (Tq rfl Pf ?_)));refine Tq rfl (An Ad rfl rfl rfl (fun wz hz=>fD (fB (Run.blk ai) hz (by first|omega|(dsimp only;omega))) rfl)) ?_;refine Tq rfl Pf ?_;refine Tq rfl (An Ad rfl rfl rfl (fun wz hz=>fD (fB ab hz (fun h=>h (bW (bX ⟨Ab,Ab⟩)))) rfl)) ?_;refine Ax rfl (AU A9 rfl (HL.out _ _ Ae) (fun _ _ h=>⟨_,h.1⟩)) rfl ?_ aFh Aw;rintro _ bv ⟨⟨⟩,⟨aq,V⟩⟩;have bw:=V.size;revert L O;refine eF V ?_;intro L O;replace N:=eW N V (fun b hb h=>h (bW (bW hb)))
  replace M:=fK M V (fun h=>h (bW (bW aj)));replace F:=fJ F V (fun k hk=>bW (fun h=>hk (bW (bW h))));clear V;refine ⟨L,?_⟩;clear ai ab al am L;refine At rfl ?_;refine A3 (AK A9 rfl (HC.out _ _) (fun _ _ h=>⟨_,h.1⟩)) rfl ?_ ?_;rotate_left;intro bx bz a6
  rotate_right 1
  rintro _ b0 ⟨⟨⟩,⟨a7,ar⟩⟩;have b2:=ar.size;revert aq O N M F;refine eE ar ?_;intro aq O N M F;clear ar;refine Ak (Af (Bs rfl ?_));rotate_left;refine AS (AB ?_);rotate_left;refine AE (AS (AB ?_));rotate_left;refine AE (AS (AB ?_));rotate_left;refine AE (AS (AB ?_));rotate_left;refine AE (AS (AB ?_));rotate_left
 . exact Fa aq F HR.out.sub (fun k=>bW) (by rw [hZ];simp only [Y,ag,ao,ax,a7,cJ,CI,ne_eq,not_true,not_false_iff,if_false,if_true])
 . exact EA a6 F (fun e=>by rw [hZ];simp only [Y,ag,ao,ax,cJ,CI,ne_eq,not_true,not_false_iff,if_false,if_true];rw [AG e])
 . exact BC a4 F (fun k=>bW) (fun er e=>by rw [hZ];simp only [Y,ag,ao,e,cJ,CI,ne_eq,not_true,not_false_iff,if_false,if_true])
 . exact BC a3 F (fun k=>bW) (fun er e=>by rw [hZ];simp only [Y,ag,e,cJ,CI,ne_eq,not_true,not_false_iff,if_false,if_true])
 . exact EA a2 F (fun e=>by rw [hZ];simp only [Y,cJ,CI,ne_eq,not_true,not_false_iff,if_false,if_true];rw [AG e])
 . exact BC ba F (fun k=>bW) (fun er e=>by rw [hZ];simp only [e,cJ,CI,ne_eq,not_true,not_false_iff,if_false,if_true])
def Dy {S S':nP} {l:List Nd} {a:oA} (h:rowSits S w l a) (F : ∀b,S b->S' b):rowSits S' w l a:=by
 have:=eX (t:=.mk 0 0 [] l) h F;exact this
def Lm (hc:c.fuel<=10000) (d:Nat) (b:Bool) {k n:Int} {s:List UInt8} {l:List Nd} (hk:(40<=k/\k<=49)\/k=56) (ar:(Nd.mk k n s l).isStmt=true) (ah:StOk c.g.procs (.mk k n s l)) (a:Option Addr) (m:Nat) (w:World) (M:(Nd.mk k n s l).sits P w a) (h:Run c P w r) :
 Calls prog 108 #[.pointer (some ⟨c.rb,0,none⟩),(Nd.mk k n s l).val a m,.bool b] w (D0 c P (Au c.g.procs (d+1) b (.mk k n s l) r) w):=by
 have X:=eU w;have HR:=bU h;clear h;have M:rowSits P w l a:=M;obtain ⟨Z,hZ⟩ : ∃Z,Z=Au c.g.procs (d+1) b (.mk k n s l) r:=⟨_,rfl⟩
 rw [<-hZ]
 rw [Cw _ _ _ Ab] at hZ
 change Calls prog _ #[_,.agg #[.int .u8 k,.int .i64 n,str s,.slice a l.length m],_] w _
 refine Ac func108 ntmps108 rfl rfl ?_
 refine cS ?_;refine JA [_,_,_,_] rfl rfl rfl ?_;intro b1 w2 n3;have U:=n3.blk;have x5:=n3.ext;have p6:=n3.pos;have z7:=n3.size;clear n3 M;replace X:=X.ext x5;replace M:=fY M x5;clear x5;refine cT ?_
 have h1:=HR.out.more X;have F:Fr (fun k=> ¬P k) w w2:=fE X;clear X;have HS:=bU (fun r1 w1 h=>Mq (c:=c) (P:=Ci P w w2) (r:=r1) hc w1 h)
 unfold D0 at HS
 have HD:=bU (fun r1 w1 h1 h2=>aX (c:=c) (P:=Ci P w w2) (r:=r1) hc hk ar ah.wf ah.size a m w1 h1 h2);have HU:=bU (fun r1 w1 h1 h2=>Zu (c:=c) (P:=Ci P w w2) (r:=r1) hc hk ar ah.wf ah.size a m w1 h1 h2);have HC:=bU (fun e w1=>IE e (.pointer (some ⟨c.rb,0,none⟩)) w1)
 unfold R6 at HC
 clear ar ah
 cases b
 . simp only [dK,if_false] at hZ
   focus
    refine cS (C1 Pg (C1 (Pl U) (cT (Av (cS (C1 V1 (C1 Pa (cT (Ds (cS (C1 V1 ?_)))))))))));refine C1 Pa (cT (Ds (cS (C1 V1 (C1 Pa (cT (Ds (cS (C1 V1 (C1 Pa (cT ?_)))))))))));refine Ds (Ai (cS (C1 V1 (C1 Pa (cT (Ds (Aj (C1 V1 (C1 Pa (cT (Ds ?_)))))))))));refine cS (C1 Mv ?_);refine A3 (AK A9 rfl (HS.out _ _ Ae) (fun _ _ h=>h.ret)) rfl ?_ ?_;rotate_left;intro bk bl a0
    rotate_right 1
    rintro _ an ⟨a2,⟨⟨⟩,⟨ao,⟨ai,ac⟩⟩⟩⟩;have a3:=ac.size;replace U:=fB U ac (fun h=>h (bX ⟨Ab,Ab⟩));replace M:=fO M ac (fun b hb h=>h (bW hb));replace F:=fJ F ac (fun k hk=>bW (fun h=>hk (bW h)));clear ac;refine cN (C1 Mv (cT (BD rfl ?_)));refine Ar (fun wz=>Fr ((fun k=> ¬(Ci P w w2 k\/k=c.rb))) an wz) 7 (.pure 0 (.pure 1 (.pure 2 (.pure 3 (.pure 4 (.pure 5 (.fork 6 .tail .none))))))) mixed A9 (Al Ah) ?_;intro au N _;have G:(fun wz=>Fr ((fun k=> ¬(Ci P w w2 k\/k=c.rb))) an wz) au:=fE N;simp only at G;have af:=ai;have ad:=U;have aj:=M;have a4:=N.size;replace ai:=ai.ext N;replace U:=U.ext N;replace M:=fY M N;replace F:=F.ext N;clear N;refine ⟨G,?_⟩;refine Tq rfl Mv (Tq rfl Mv (Tq rfl Pn (Tq rfl Pf ?_)));refine Tq rfl (An Ad rfl rfl rfl (fun wz hz=>fD (fB (Run.blk af) hz (by first|omega|(dsimp only;omega))) rfl)) ?_;refine Tq rfl (By [_,_,_,_] Ad rfl rfl rfl (fun wz hz=>(fB ad hz (fun h=>h (bW (bX ⟨Ab,Ab⟩))))) rfl rfl) ?_;refine Ax rfl (AU A9 rfl (HD.out _ _ (Dy Ae (fun b h=>bW h)) Ae) (fun _ _ h=>⟨_,h.1⟩)) rfl ?_ aFh Aw;rintro _ a5 ⟨⟨⟩,⟨ak,V⟩⟩
    have a6:=V.size;replace G:=fJ G V (fun k hk=>bW hk);replace U:=fB U V (fun h=>h (bW (bX ⟨Ab,Ab⟩)));replace M:=fO M V (fun b hb h=>h (bW (bW hb)));replace F:=fJ F V (fun k hk=>bW (fun h=>hk (bW (bW h))));clear V;refine ⟨G,?_⟩;clear af ad aj G;refine At rfl ?_;refine A3 (AK A9 rfl (HC.out _ _) (fun _ _ h=>⟨_,h.1⟩)) rfl ?_ ?_;rotate_left;intro a7 a8 av
    rotate_right 1
    rintro _ a9 ⟨⟨⟩,⟨aw,Y⟩⟩;have ba:=Y.size;replace ak:=ak.ext Y;replace U:=U.ext Y;replace M:=fY M Y;replace F:=F.ext Y;clear Y;refine Ak (Af (Bs rfl ?_));rotate_left;refine AS (AB ?_);rotate_left;refine AE (AS (AB ?_));rotate_left
   . exact Fa ak F HR.out.sub (fun k=>bW) (by rw [hZ];simp only [ao,aw,cJ,CI,ne_eq,not_true,not_false_iff,if_false,if_true])
   . exact EA av F (fun e=>by rw [hZ];simp only [ao,cJ,CI,ne_eq,not_true,not_false_iff,if_false,if_true];rw [AG e])
   . exact BC a0 F (fun k=>bW) (fun er e=>by rw [hZ];simp only [e,cJ,CI,ne_eq,not_true,not_false_iff,if_false,if_true])
 . simp only [if_true] at hZ
   focus
    refine cS (C1 Pg (C1 (Pl U) (cT (Av (cS (C1 V1 (C1 Pa (cT (Ds (cS (C1 V1 ?_)))))))))));refine C1 Pa (cT (Ds (cS (C1 V1 (C1 Pa (cT (Ds (cS (C1 V1 (C1 Pa (cT ?_)))))))))));refine Ds (Ai (cS (C1 V1 (C1 Pa (cT (Ds (Aj (C1 V1 (C1 Pa (cT (Ds ?_)))))))))));refine cS (C1 Mv ?_);refine A3 (AK A9 rfl (HS.out _ _ Ae) (fun _ _ h=>h.ret)) rfl ?_ ?_;rotate_left;intro bm bn a1
    rotate_right 1
    rintro _ ap ⟨bb,⟨⟨⟩,⟨aq,⟨al,ae⟩⟩⟩⟩;have bc:=ae.size;replace U:=fB U ae (fun h=>h (bX ⟨Ab,Ab⟩));replace M:=fO M ae (fun b hb h=>h (bW hb));replace F:=fJ F ae (fun k hk=>bW (fun h=>hk (bW h)));clear ae;refine cN (C1 Mv (cT (Cb rfl ?_)));refine Ar (fun wz=>Fr ((fun k=> ¬(Ci P w w2 k\/k=c.rb))) ap wz) 7 (.pure 0 (.pure 1 (.pure 2 (.pure 3 (.pure 4 (.pure 5 (.fork 6 .tail .none))))))) mixed A9 (Al Ah) ?_;intro ax O _;have L:(fun wz=>Fr ((fun k=> ¬(Ci P w w2 k\/k=c.rb))) ap wz) ax:=fE O;simp only at L;have ag:=al;have ad:=U;have aj:=M;have bd:=O.size;replace al:=al.ext O;replace U:=U.ext O;replace M:=fY M O;replace F:=F.ext O;clear O;refine ⟨L,?_⟩;refine Tq rfl Mv (Tq rfl Mv (Tq rfl Pn (Tq rfl Pf ?_)));refine Tq rfl (An Ad rfl rfl rfl (fun wz hz=>fD (fB (Run.blk ag) hz (by first|omega|(dsimp only;omega))) rfl)) ?_;refine Tq rfl (By [_,_,_,_] Ad rfl rfl rfl (fun wz hz=>(fB ad hz (fun h=>h (bW (bX ⟨Ab,Ab⟩))))) rfl rfl) ?_;refine Ax rfl (AU A9 rfl (HU.out _ _ (Dy Ae (fun b h=>bW h)) Ae) (fun _ _ h=>⟨_,h.1⟩)) rfl ?_ aFh Aw;rintro _ be ⟨⟨⟩,⟨am,aa⟩⟩
    have bf:=aa.size;replace L:=fJ L aa (fun k hk=>bW hk);replace U:=fB U aa (fun h=>h (bW (bX ⟨Ab,Ab⟩)));replace M:=fO M aa (fun b hb h=>h (bW (bW hb)));replace F:=fJ F aa (fun k hk=>bW (fun h=>hk (bW (bW h))));clear aa;refine ⟨L,?_⟩;clear ag ad aj L;refine At rfl ?_;refine A3 (AK A9 rfl (HC.out _ _) (fun _ _ h=>⟨_,h.1⟩)) rfl ?_ ?_;rotate_left;intro bg bh ay
    rotate_right 1
    rintro _ bi ⟨⟨⟩,⟨az,ab⟩⟩;have bj:=ab.size;replace am:=am.ext ab;replace U:=U.ext ab;replace M:=fY M ab;replace F:=F.ext ab;clear ab;refine Ak (Af (Bs rfl ?_));rotate_left;refine AS (AB ?_);rotate_left;refine AE (AS (AB ?_));rotate_left
   . exact Fa am F HR.out.sub (fun k=>bW) (by rw [hZ];simp only [aq,az,cJ,CI,ne_eq,not_true,not_false_iff,if_false,if_true])
   . exact EA ay F (fun e=>by rw [hZ];simp only [aq,cJ,CI,ne_eq,not_true,not_false_iff,if_false,if_true];rw [AG e])
   . exact BC a1 F (fun k=>bW) (fun er e=>by rw [hZ];simp only [e,cJ,CI,ne_eq,not_true,not_false_iff,if_false,if_true])
end
end Bk
