/- Texts that the proofs of InverterReturns need. No condition. (Part 6 of 8.) -/
import Derived.Test.YtipjiidkdllbpaaGreatDoorPRtn5
set_option linter.unusedSimpArgs false
set_option linter.unusedVariables false
set_option linter.defProp false
set_option maxRecDepth 100000
set_option maxHeartbeats 4000000
open Go.Proofs.Tryz
open List renaming getElem?_eq_getElem->bT,getD_eq_getElem?_getD->cB,length_cons->cF,getElem?_eq_none->cI,getElem?_append_left->cK,getElem_mem->cL,length_append->cP,getElem?_append_right->cW,take_length->dB,length_nil->dD,getElem?_cons_zero->dF,take_succ_eq_append_getElem->dG,drop_eq_getElem_cons->dH,replicate->dJ,mem_of_getElem?->dL,append_assoc->dP,mem_cons->dQ,getElem?_map->dZ,length_take->eH,not_mem_nil->eP
open Go.Lib renaming hid->bU
open Or renaming inl->bW,inr->bX
open Bool renaming and_eq_true->bZ,false_eq_true->dK
open Option.some renaming inj->cD,injEq->cE
open Go.Result renaming andThen->cG
open Nat renaming le_refl->cH,lt_or_ge->cO,zero_le->cQ,blt->cV,le_of_ble_eq_true->dE,eq_of_beq_eq_true->dO,le_trans->dV,ble->dW,beq->eC,zero_add->eJ
open Except renaming bind->cJ
open Go.Sem renaming run_bind->cU,run_pure->dC
open Go renaming Calls->cX
open Go.Value renaming slice->cY,int->dM,ownBlock->eR
open Go.Region renaming ready->cZ,binds->dT
open Go.IntWalk renaming i64_in->dA
open Go.Value.slice renaming injEq->dI
open Go.DataW renaming trod->dN
open Go.Builtin renaming zeroCells->dR
open List.cons renaming injEq->dU
open Array renaming getElem?_eq_none->dX,replicate->eO
open Go.Calls renaming mono->dY
open Go.Addr renaming add->eG
open Go.Oper renaming wp->eL
open Bk.Ext renaming refl->eU,fr->gE
open Bk.Nd.sits renaming fr->eW,wide->eX,ext->gH
open Bk.Blk renaming fr->fB,cell->fD,ext->fH
open Bk.Fr renaming refl->fC,of_ext->fE,fr->fJ
open Bk.rowSits renaming fr->fO,ext->fY
open Bk.Value renaming one->fP
open Bk.Nd renaming name->fQ
open Bk.Row renaming at0->fV
open Bk.VDs renaming fr->gC
namespace Bk
open Go Go.RowKit
section
variable {P:Program} {n:Nat} {l:Sl} {S:wD->Prop} {tab:Tab} {zt:EV} {ty:TypeId} {w:wD}
def QE {x y z:Operand} {t e G sz len cap:Nat} {V:Sk} {a:oA} {k L:IntKind} (T:TabOk P tab) (X:Az tab t=some (.slice e,G)) (Y:Az tab e=some (V,sz)) (Z:ev l x=some (.slice a len cap)) (hy:ev l y=some (.int k (len:Int))) (hz:ev l z=some (.int L (len:Int))) (hm:len<=cap) :
 BB P n l S (.slice t x none (some y) (some z)) ty (.slice a len len):=by
 unfold BB;intro aa w ab pos after g M _;have O:P.underlying t=some (.slice e):=(T _ _ _ X).under;have h:P.elem t=e:=by simp [Program.elem,O]
 have F:P.underlying t=some (.slice (P.elem t)):=by rw [h];exact O
 obtain ⟨i,hi,hs⟩:=(T _ _ _ Y).info;have N:(Go.sizeOf e).run P w = .ok sz w:=by simp [Go.sizeOf,typeInfo,program,Sem.run,bind,Sem.bind,pure,hi,hs]
 have h1:(Instr.sliceAt t (.slice a len cap) none (some (.int k (len:Int))) (some (.int L (len:Int)))).run P w = .ok (.slice a len len) w:=by
  rw [run_sliceAt_slice w t _ _ _ _ F,run_slice_hm w t a len cap F k L len len Ab Ab Ab];rw [h,N];simp only [cG,sliced,Int.toNat_natCast,Nat.sub_zero,Nat.zero_mul];by_cases U:len=0
  . rw [AG U]
  . rw [As U];cases a<;>simp [eG]
 simp [execOp,M.ev Z,M.ev hy,M.ev hz,cU,h1,cG]
def Dk {x y:Operand} {t e sz1 sz m cap:Nat} {sE:Sk} {zs:lV} {a:oA} {p:Addr} {cs us:lV} {R:nP} (T:TabOk P tab) (Z:CN P zt) (ht:Az tab t=some (.slice e,sz1)) (hE:Az tab e=some (sE,sz)) (hz:Da zt e=some zs) (hzl:zs.length=sz)
 (hby:DM P e=true) (hsz:cV 0 sz=true) (hx:ev l x=some (.slice a m m)) (hy:ev l y=some (.slice (some p) 1 cap)) (hs:Rows R w cs a) (hcl:cs.length=m*sz) (hr:Row w p us) (hul:us.length=1*sz) (hu:us.all fP=true) (hm:m<=1000000000) :
 B5 P n l (.call ⟨.builtin .append,#[x,y],#[t,t]⟩) ty w (Ku fun o w'=> ∃g cap',o = .slice (some ⟨g,0,none⟩) (m+1) cap'/\m+1<=cap'/\Row w' ⟨g,0,none⟩ (cs++us)/\w.heap.size<=g/\g<w'.heap.size/\Ext w w'):=by
 obtain ⟨i,v0,z1,z2,z3⟩:=FM Z hz;obtain ⟨i',hi',hs'⟩:=(T _ _ _ hE).info;rw [z1] at hi';obtain rfl:=cD hi';have hbb:i.bytes<=1000:=by
  unfold DM at hby;rw [z1] at hby;exact dE hby
 have hzs:v0.cells.size=sz:=by rw [z3];simpa using hzl
 have hsz':0<sz:=dE hsz;have hbytes:(m+1)*i.bytes<=140737488355328:=by have:=Nat.mul_le_mul (show m+1<=1000000001 by omega) hbb;omega
 have hnews : ∀j u,us[j]? = some u->w.cell? (p.add j)=some u:=fun j u hj=>hr j u hj
 have hu':P.underlying t=some (.slice e):=(T _ _ _ ht).under;have c:m+1<=maxLen:=by unfold maxLen;omega
 have key : ∃g cap' w',(Builtin.append_ #[t,t] ty #[.slice a m m,.slice (some p) 1 cap]).run P w = .ok (.slice (some ⟨g,0,none⟩) (m+1) cap') w'/\m+1<=cap'/\Row w' ⟨g,0,none⟩ (cs++us)/\w.heap.size<=g/\g<w'.heap.size/\Ext w w':=by
  have fin : ∀(v':Value) (w':wD),w'.ownsRow w.heap.size e sz v' (m+1) (cs++us)->w.grownBy w' none -> ∃g cap',v' = .slice (some ⟨g,0,none⟩) (m+1) cap'/\m+1<=cap'/\Row w' ⟨g,0,none⟩ (cs++us)/\w.heap.size<=g/\g<w'.heap.size/\Ext w w':=fun v' w' h1 h2=>by
   have ho:Own w' w.heap.size e sz v' (m+1) (cs++us):=h1;have hx:Ext w w':=⟨h2.os,h2.tape,h2.output,h2.size,fun k hk=>h2.block k hk AR⟩
   rcases ho.row with ⟨-,h0,-⟩|⟨g,cap',rfl,hg,hob,hrr⟩
   . omega
   . exact ⟨g,cap',rfl,SO ho,hrr,hg,(ho.blk hob).2,hx⟩
  cases a with
  | some b=>
   obtain ⟨v',w',hrun,h1,h2⟩:=run_append_arg_grows (P:=P) w t ty e i v0 sz i.bytes hu' z1 z2 hs' rfl hzs hsz' b m m cs hcl (fun j u hj=>by
    rcases hs with rfl|⟨b',o,hb,-,hrow⟩
    . simp at hj
    . obtain rfl:=cD hb;exact hrow j u hj) p 1 cap us hul hnews Ab c hbytes
   obtain ⟨g,cap',rfl,k⟩:=fin v' w' h1 h2;exact ⟨g,cap',w',hrun,k⟩
  | none=>
   have d:cs=[]:=by
    rcases hs with rfl|⟨b',o,hb,-⟩
    . rfl
    . cases hb
   subst d;have f:m=0:=by
    simp only [dD] at hcl;rcases Nat.eq_zero_or_pos m with h|h
    . exact h
    . have:=Nat.mul_pos h hsz';omega
   subst f;have h1c : ∀u∈us,u.oneCell'=true:=fun u hm=>by rw [<-SD];exact List.all_eq_true.1 hu u hm
   obtain ⟨v',w',hrun,h1,h2,-⟩:=run_append_own (P:=P) w w.heap.size t ty e i v0 sz i.bytes hu' z1 z2 hs' rfl hzs hsz' (.slice none 0 0) 0 [] Own.nil p 1 cap us hul hnews h1c (by unfold maxLen;omega) (by simpa using hbytes) (cH _);obtain ⟨g,cap',rfl,k⟩:=fin v' w' (by simpa using h1) (by simpa [eR] using h2);exact ⟨g,cap',w',hrun,k⟩
 obtain ⟨g,cap',w',hrun,k⟩:=key;unfold B5;intro act dst pos after gd next Q ha hn _;have e1:(execOp act.eval ⟨dst,.call ⟨.builtin .append,#[x,y],#[t,t]⟩,ty,pos,after,gd⟩).run P w = .ok (.value (.slice (some ⟨g,0,none⟩) (m+1) cap')) w':=by
  simp only [execOp,resolve,invoke,builtin,cU,dC,Result.andThen_ok,List.map_toArray,List.map_cons,List.map_nil,ha.ev hx,ha.ev hy,hrun]
 unfold eL;rw [e1];exact hn _ _ ⟨g,cap',rfl,k⟩
end
structure OwnQ {α:Type} (sh:Shape α) (w:wD) (R:nP) (B e:Nat) (v:Value) (xs:List α):Prop where
 ex : ∃css:List lV,Own w B e sh.sz v xs.length css.flatten/\css.length=xs.length /\ ∀(i:Nat) (x:α) (cs:lV),xs[i]? = some x->css[i]? = some cs->sh.rep w (fun b=>R b/\v.ownBlock≠some b) x cs
section
variable {α:Type} {sh:Shape α} {R R':nP} {B e:Nat} {w w':wD} {v:Value} {xs:List α}
def OwnQ.nil:OwnQ sh w R B e (.slice none 0 0) []:=⟨⟨[],Own.nil,rfl,AR⟩⟩
def OwnQ.ge (h:OwnQ sh w R B e v xs) {k:Nat} (F:v.ownBlock=some k):B<=k:=by
 obtain ⟨G,L,-⟩:=h.ex;exact L.ge F
def OwnQ.lt (h:OwnQ sh w R B e v xs) {k:Nat} (F:v.ownBlock=some k):k<w.heap.size:=by
 obtain ⟨G,L,-⟩:=h.ex;exact (L.blk F).2
def OwnQ.ext (h:OwnQ sh w R B e v xs) (x:Ext w w'):OwnQ sh w' R B e v xs:=by
 obtain ⟨F,G,L,M⟩:=h.ex;exact ⟨F,G.ext x,L,fun i y cs N O=>sh.mono (M i y cs N O) aFh (fun b o u _ U=>x.keep U)⟩
instance  : LfE w w' (OwnQ sh w R B e v xs) (OwnQ sh w' R B e v xs):=⟨fun x h=>Bk.OwnQ.ext h x⟩
def OwnQ.fr {S:nP} (h:OwnQ sh w R B e v xs) (x:Fr S w w') (L : ∀k,S k -> ¬R k/\v.ownBlock≠some k):OwnQ sh w' R B e v xs:=by
 obtain ⟨F,M,N,O⟩:=h.ex;exact ⟨F,M.fr x (fun k U G=>(L k G).2 U),N,fun i y cs V X=>sh.mono (O i y cs V X) aFh (fun b o u Y Z=>x.keep (fun G=>(L b G).1 Y.1) Z)⟩
instance {S:nP}:LfF S w w' (OwnQ sh w R B e v xs) (∀k,S k -> ¬R k/\v.ownBlock≠some k) (OwnQ sh w' R B e v xs):=⟨fun x s h=>Bk.OwnQ.fr h x s⟩
def OwnQ.ltR (h:OwnQ sh w R B e v xs):OwnQ sh w (fun b=>R b/\b<w.heap.size) B e v xs:=by
 obtain ⟨F,L,M,N⟩:=h.ex;exact ⟨F,L,M,fun i y cs O U=>sh.mono (sh.lt (N i y cs O U)) (fun b G=>⟨⟨G.1.1,G.2⟩,G.1.2⟩) (fun _ _ _ _ V=>V)⟩
def OwnQ.below (h:OwnQ sh w R B e v xs) {G:Nat} (L : ∀k,v.ownBlock=some k->G<=k):OwnQ sh w R G e v xs:=by
 obtain ⟨F,M,N,O⟩:=h.ex;refine ⟨F,?_,N,O⟩;obtain ⟨k1,U|⟨g,cap,cur,rfl,X,V⟩⟩:=M
 . exact ⟨k1,bW U⟩
 . exact ⟨k1,bX ⟨g,cap,cur,rfl,L g rfl,V⟩⟩
def Z5 (sh:Shape α) (w:wD) (R:nP) (B:Nat) (e:TypeId) (v:Value) (ys:List α):Option Value->wD->Prop
 | some v',w'=> ∃g cap,v' = .slice (some ⟨g,0,none⟩) ys.length cap/\OwnQ sh w' R B e v' ys/\(v.ownBlock=some g\/w.heap.size<=g)/\g<w'.heap.size/\Fr (fun k=>v.ownBlock=some k) w w'
 | none,_=>False
def J0 {P:Program} {n:Nat} {l:Sl} {tab:Tab} {zt:EV} {ty:TypeId} {x y:Operand} {t sz1 cap:Nat} {sE:Sk} {zs:lV} {cs:lV} {z:α} {p:Addr} (T:TabOk P tab) (Z:CN P zt) (ht:Az tab t=some (.slice e,sz1)) (hE:Az tab e=some (sE,sh.sz)) (hz:Da zt e=some zs) (hzl:zs.length=sh.sz)
 (hby:DM P e=true) (hsz:cV 0 sh.sz=true) (hx:ev l x=some v) (hy:ev l y=some (.slice (some p) 1 cap)) (hown:OwnQ sh w R' B e v xs) (hw : ∀b,R' b->R b) (hr:Row w p cs) (hrep:sh.rep w (fun b=>R b/\v.ownBlock≠some b) z cs) (hlen:xs.length<=10000000000) (hB:B<=w.heap.size) :
 B5 P n l (.call ⟨.builtin .append,#[x,y],#[t,t]⟩) ty w (Z5 sh w R B e v (xs++[z])):=by
 obtain ⟨css,h1,h2,h3'⟩:=hown.ex;have h3 : ∀(i:Nat) (x:α) (cs:lV),xs[i]? = some x->css[i]? = some cs->sh.rep w (fun b=>R b/\v.ownBlock≠some b) x cs:=fun i y cs hy hc=>sh.mono (h3' i y cs hy hc) (fun b hb=>⟨hw b hb.1,hb.2⟩) (fun _ _ _ _ hu=>hu)
 have hd:=Eo (P:=P) (n:=n) (l:=l) (ty:=ty) T Z ht hE hz hzl hby hsz hx hy h1 hr (by rw [sh.len hrep];simp) (sh.one hrep) Ab Ab hB;unfold B5 at hd ⊢;intro a dst pos after g next Q ha hn c;refine hd a dst pos after g next Q ha (fun v' w' hG=>?_) (fun w' hG=>hG.elim);obtain ⟨g1,g2,g,cap',g3,g4⟩:=hG;have hg:=g1.blk (k:=g) (by rw [g3];rfl);refine hn v' w' ⟨g,cap',by rw [g3];simp,⟨css++[cs],?_,by simp [h2],fun i y ds hy hc=>?_⟩,g4,hg.2,g2⟩
 . have e1:(css++[cs]).flatten=css.flatten++cs:=by simp
   have e2:(xs++[z]).length=xs.length+1:=by simp
   rw [e1,e2];exact g1
 . have key:sh.rep w (fun b=>R b/\v.ownBlock≠some b) y ds:=by
    by_cases hi:i<xs.length
    . rw [cK hi] at hy;rw [cK Ab] at hc;exact h3 i y ds hy hc
    . have hil:i<(xs++[z]).length:=by
       rcases cO i (xs++[z]).length with h|h
       . exact h
       . rw [cI h] at hy;cases hy
      simp only [cP,cF,dD] at hil;have hi':i=xs.length:=by omega
      subst hi';rw [cW (cH _)] at hy;rw [cW Ab] at hc;simp only [Nat.sub_self,dF,cE] at hy;rw [h2] at hc;simp only [Nat.sub_self,dF,cE] at hc;subst hy hc;exact hrep
   refine sh.mono (sh.lt key) (fun b hb=>⟨hb.1.1,fun e=>?_⟩) (fun b o u hb hu=>g2.keep hb.1.2 hu);rw [g3] at e;simp only [eR,cE] at e;subst e;rcases g4 with h|h
   . exact hb.1.2 h
   . omega
def OwnQ.rows (h:OwnQ sh w R B e v xs) (hx:xs≠[]) : ∃g cap,v = .slice (some ⟨g,0,none⟩) xs.length cap/\B<=g/\g<w.heap.size /\ ∀(i:Nat) (x:α),xs[i]? = some x -> ∃cs,Row w ⟨g,i*sh.sz,none⟩ cs/\sh.rep w R x cs:=by
 obtain ⟨F,O,h2,U⟩:=h.ex;have hM:OwnM sh w R B e v xs:=⟨F,O,h2,fun i y cs hy hc=>sh.mono (U i y cs hy hc) (fun b M=>⟨bW M.1,M.2⟩) (fun _ _ _ _ V=>V)⟩
 rcases O.row with ⟨rfl,hn,-⟩|⟨g,cap,rfl,hg,ab,hr⟩
 . exact absurd (List.length_eq_zero_iff.1 hn) hx
 . refine ⟨g,cap,rfl,hg,(O.blk (k:=g) rfl).2,fun i x N=>?_⟩;obtain ⟨g',aa,hv,-,G⟩:=hM.rows hx;simp only [dI,cE,Addr.mk.injEq,and_true,true_and] at hv;obtain ⟨rfl,rfl⟩:=hv;have ac:i<xs.length:=by
    rcases cO i xs.length with h|h
    . exact h
    . rw [cI h] at N;cases N
   have L : ∀cs∈F,cs.length=sh.sz:=fun cs X=>by
    obtain ⟨j,hj,rfl⟩:=List.mem_iff_getElem.1 X;have Y:xs[j]? = some xs[j]:=bT Ab;exact sh.len (U j _ _ Y (bT hj))
   have Z:F[i]? = some (F[i]'(by omega)):=bT Ab;obtain ⟨cs,k1,k2⟩:=G i x N;refine ⟨F[i]'(by omega),?_,sh.mono (U i x _ N Z) (fun b M=>M.1) (fun _ _ _ _ V=>V)⟩;obtain ⟨f1,f2⟩:=G8 L (j:=i) Ab;rw [f1] at hr;have hs:=hr.sub (i*sh.sz) sh.sz;rw [eJ,dP,List.drop_left' f2,List.take_left' (L _ (cL _))] at hs;exact hs
end
section
variable {P:Program} {n:Nat} {l:Sl} {w:wD} {tab:Tab} {zt:EV} {ty:TypeId} {α:Type} {sh:Shape α}
def Hk {ops:Array Oper} {Q:Exit->Act->wD->Prop} {rest:List Oper} {d:Nat} {pos:String} {after:Array Edge} {x y:Operand} {t e N B cap:Nat} {R R':nP} {X:Sk} {zs:lV} {v:Value} {xs:List α} {cs:lV} {z:α} {p:Addr} (T:TabOk P tab) (Z:CN P zt) (Y:Az tab t=some (.slice e,N)) (hE:Az tab e=some (X,sh.sz)) (hz:Da zt e=some zs) (O:zs.length=sh.sz)
 (U:DM P e=true) (V:cV 0 sh.sz=true) (hx:ev l x=some v) (hy:ev l y=some (.slice (some p) 1 cap)) (G:OwnQ sh w R' B e v xs) (hw : ∀b,R' b->R b) (hr:Row w p cs) (L:sh.rep w (fun b=>R b/\v.ownBlock≠some b) z cs) (M:xs.length<=10000000000) (hB:B<=w.heap.size) (hd:cV d n=true)
 (k : ∀g F w1,OwnQ sh w1 R B e (.slice (some ⟨g,0,none⟩) (xs++[z]).length F) (xs++[z])->(v.ownBlock=some g\/w.heap.size<=g)->g<w1.heap.size->Fr (fun k=>v.ownBlock=some k) w w1->LW P n ops Q rest ((d,.slice (some ⟨g,0,none⟩) (xs++[z]).length F)::l) w1) :
 LW P n ops Q (⟨some d,.call ⟨.builtin .append,#[x,y],#[t,t]⟩,ty,pos,after,none⟩::rest) l w:=
 AC (J0 T Z Y hE hz O U V hx hy G hw hr L M hB) hd (fun v w1 ⟨g,cap,h,ho,h1,h2,hf⟩=>by subst h;exact k g cap w1 ho h1 h2 hf) aFh
end
section
variable {P:Program} {n:Nat} {l:Sl} {w:wD} {tab:Tab} {zt:EV} {ty:TypeId}
def D9 {S:wD->Prop} {f:Fn} {cs:List Operand} {vs:lV} (h:evs l cs=some vs):BB P n l S (.makeFunc f #[] cs.toArray) ty (.func f #[] vs.toArray):=by
 unfold BB;intro a w F pos after g G _;have e:=G.evs h;simp [execOp,Instr.makeFunc,e]
end
section
variable {P:Program} {n:Nat} {ops:Array Oper} {Q:Exit->Act->wD->Prop} {rest:List Oper} {l:Sl} {w:wD} {tab:Tab} {ty:TypeId} {pos:String} {after:Array Edge}
end
open Go.Proofs
attribute [local irreducible] Go.Calls
def PDs.ltA {S:nP} {w:wD} {l:List PD} {a:oA} (h:PDs S w l a):PDs (· < w.heap.size) w l a:=by
 rcases h with h|⟨b,o,L,Z,G⟩
 . exact bW h
 . cases l with
   | nil=>exact bW rfl
   | cons v r=>
    obtain ⟨_,_,_,_,F,-,-⟩:=G 0 v rfl;refine bX ⟨b,o,L,Co (fV F rfl),fun i x M=>?_⟩;obtain ⟨N,O,U,V,F,X,Y⟩:=G i x M;exact ⟨N,O,U,V,F,X.lt2.wide (fun _ h=>h.2),BZ _ _ Y⟩
structure PG.few (g:PG):Prop where
 nv:g.vars.length<=1000000
 np:g.procs.length<=1000000
 main:g.main.size<=1000000
 procs : ∀p∈g.procs,p.params.length<=1000000/\p.body.size<=1000000
def OR (l:List VD) (V:l.length<=1000000) (s:lB) (S:nP) (a:oA) (c:Nat) (w:wD) (F:VDs S w l a) :
 Calls prog 28 #[.slice a l.length c,str s] w fun e w'=>e = .returned (.int .i64 (Fs l s))/\Ext w w':=by
 have X:=eU w;have G:=bU (OL l V s);unfold Fs;generalize Ep l s=o at *;cases o with
 | none=>
  dsimp only [Option.isSome,Option.getD] at G ⊢;refine Ac func28 ntmps28 rfl rfl ?_;refine eK ?_;refine cC rfl (G.out _ _ _ _ Ae) ?_;rintro _ w2 ⟨⟨⟩,Y⟩;revert F X;refine eY Y ?_;intro z3 F X;refine eK ?_;refine xA [_,_,_] ?_;intro b4 w5 Z;refine eI [_,_,_] Z ?_;intro w7 h8 x9 aa ab;revert F X;refine eE x9 ?_;intro F X;refine eK ?_;refine xR ?_;exact ⟨rfl,X⟩
 | some v=>
  obtain ⟨vn,vk,vl⟩:=v;dsimp only [Option.isSome,Option.getD] at G ⊢;refine Ac func28 ntmps28 rfl rfl ?_;refine eK ?_;refine cC rfl (G.out _ _ _ _ Ae) ?_;rintro _ ac ⟨⟨⟩,L⟩;revert F X;refine eY L ?_;intro ad F X;refine eK ?_;refine xA [_,_,_] ?_;intro ae af h;refine Dd [_,_,_] Ad rfl rfl rfl rfl rfl rfl h rfl ?_;intro ag h;have M:=h.blk;dsimp only at M;have N:=h.ext;have O:=h.pos;have U:=h.size;revert F X;refine eE N ?_;intro F X;refine eK ?_;refine xR ?_;exact ⟨rfl,X⟩
def Z6 (l:List VD) (Y:l.length<=1000000) (s:lB) (k:Int) (S:nP) (a:oA) (c:Nat) (w:wD) (F:VDs S w l a) :
 Calls prog 100 #[.slice a l.length c,str s,.int .u8 k] w fun e w'=>e = .returned (.int .i64 (EC l s k))/\Ext w w':=by
 have X:=eU w;have L:=bU (OL l Y s);unfold EC;generalize Ep l s=o at *;cases o with
 | none=>
  dsimp only [Option.isSome,Option.getD] at L;refine Ac func100 ntmps100 rfl rfl ?_;refine eK ?_;refine cC rfl (L.out _ _ _ _ Ae) ?_;rintro _ w2 ⟨⟨⟩,Z⟩;revert F X;refine eY Z ?_;intro z3 F X;refine eK ?_;refine xA [_,_,_] ?_;intro b4 w5 n6;refine eI [_,_,_] n6 ?_;intro w7 h8 x9 aa ab;revert F X;refine eE x9 ?_;intro F X;refine eK ?_;refine xR ?_;exact ⟨rfl,X⟩
 | some v=>
  obtain ⟨vn,vk,vl⟩:=v;dsimp only [Option.isSome,Option.getD] at L ⊢;refine Ac func100 ntmps100 rfl rfl ?_
  focus
   refine eK ?_;refine cC rfl (L.out _ _ _ _ Ae) ?_;rintro _ ac ⟨⟨⟩,M⟩;revert F X;refine eY M ?_;intro ad F X;refine eK ?_;refine xA [_,_,_] ?_;intro ae af h;refine Dd [_,_,_] Ad rfl rfl rfl rfl rfl rfl h rfl ?_;intro ag h;have N:=h.blk;dsimp only at N;have O:=h.ext;have U:=h.pos;have V:=h.size;revert F X;refine eE O ?_;intro F X;refine eK ?_;refine BU rfl (fun G=>?_) (fun G=>?_);refine eK ?_;refine xR ?_;rotate_left;refine eK ?_;refine xR ?_;rotate_left
  all_goals exact ⟨by simp [*],X⟩
def GO (ps:List PD) (s:lB):Int:=match Cf ps s with
 | some i=>(i:Int)
 | none=> -1
def PDs.get {S:nP} {w:wD} {l:List PD} {a:oA} (h:PDs S w l a) (F:l≠[]) : ∃b o,a=some ⟨b,o,none⟩/\S b /\ ∀i p,l[i]? = some p->ZU S w b (o+i*6) p:=by
 rcases h with h|⟨b,o,G,L,M⟩
 . exact absurd h F
 . exact ⟨b,o,G,L,fun i v N=>M i v N⟩
def Ye (p:PD) (G L:oA) (M N h:Nat) (s:lB) (w:wD) (F:Blk w h [str s]):Calls prog 56 #[.agg (p.cells G M L N).toArray,.pointer (some ⟨h,0,none⟩)] w fun e w'=>e = .returned (.bool (decide (p.name=s)))/\Ext w w':=by
 have X:=eU w;refine Ac func56 ntmps56 rfl rfl ?_;refine cS (eB [_,_,_,_,_,_] ?_);intro U V Y O Z z7;revert F X;refine eE O ?_;intro F X;refine eK ?_;refine xR ?_;exact ⟨rfl,X⟩
def M9 {α:Type} {f:α->Bool} {l:List α} {j:Nat} (h:j<l.length) (G:(l.take j).findIdx? f=none):(l.take (j+1)).findIdx? f=if f l[j]=true then some j else none:=by
 rw [dG h,List.findIdx?_append,G];by_cases F:f l[j]=true
 . simp [F,List.findIdx?_cons];omega
 . simp [F,List.findIdx?_cons]
def Na {α:Type} {f:α->Bool} {l:List α} {j i:Nat} (h:(l.take j).findIdx? f=some i):l.findIdx? f=some i:=by
 rw [<-List.take_append_drop j l,List.findIdx?_append,h];rfl
def Wi (l:List PD) (hl:l.length<=1000000) (s:lB) (S:nP) (a:oA) (c O:Nat) (w:wD) (F:PDs S w l a) (N:Blk w O [str s]) :
 Calls prog 55 #[.slice a l.length c,.func (.func 56) #[] #[.pointer (some ⟨O,0,none⟩)]] w fun e w'=>e = .returned (.int .i64 (GO l s))/\Ext w w':=by
 have X:=eU w;have F:=F.ltA;refine Ac func55 ntmps55 rfl rfl ?_;refine cS (C1 Pa (cT (Ai (cS (C1 Mv (C1 Pz (C1 Mv (cT ?_))))))));refine Av ?_;refine A1 (ι:=Nat) (fun j=>[(0,.slice a l.length c),(1,.func (.func 56) #[] #[.pointer (some ⟨O,0,none⟩)]),(6,.slice a l.length c),(7,.int .i64 l.length),(8,.int .i64 j)])
  (fun j w'=>j<=l.length/\PDs (· < w.heap.size) w' l a/\Blk w' O [str s]/\Ext w w'/\(l.take j).findIdx? (fun p=>decide (p.name=s))=none)
  (fun j=>l.length-j) 0 sB ⟨cQ _,F,N,X,rfl⟩ ?_
 clear F N X;rintro j w1 ⟨hj,F,N,X,G⟩;by_cases M:j<l.length
 . obtain ⟨kb,ko,rfl,kS,L⟩:=F.get (by intro e;subst e;simp at M);obtain ⟨pa,pc,ba,bc,ry,-,-⟩:=L j l[j] (bT M);have U:=M9 M G;have V:l[j].name=s->GO l s=j:=fun h=>by
    rw [AG (by simpa using h)] at U;rw [GO,Cf,Na U]
   clear L G;generalize l[j]=y at *
   focus
    refine eK ?_;refine AC (Bv (fi:=[]) (ca:=[.pointer (some ⟨O,0,none⟩)]) A9 rfl rfl (Ye y pa ba pc bc _ s _ Ae) (fun _ _ h=>⟨_,h.1⟩)) rfl ?_ aFh;rintro _ aa ⟨⟨⟩,Y⟩;revert N X F ry;refine eY Y ?_;intro ab N X F ry;refine cT ?_;refine Ay rfl (fun Z=>?_) (fun Z=>?_);refine eK ?_;refine xR ?_;rotate_left;refine Am (Af (Ag (Aj (C1 V7 (C1 Mv (Ak ?_))))));rotate_left
   . exact ⟨by rw [V Ae],X⟩
   . exact AI (j+1) sB ⟨Ab,F,N,X,U.trans (As (by simpa using Ae))⟩ Ab
 . obtain rfl:j=l.length:=by omega
   rw [dB] at G;have he:GO l s = -1:=by rw [GO,Cf,G]
   rw [he];refine eK ?_;refine xR ?_;exact ⟨rfl,X⟩
def OS (g:PG) (O:g.procs.length<=1000000) (s:lB) (S:nP) (U:oA) (vc:Nat) (N:oA) (V:Nat) (Y:oA) (Z:Nat) (w:wD) (h:PDs S w g.procs N) :
 Calls prog 29 #[.agg (g.cells U vc N V Y Z).toArray,str s] w fun e w'=>e = .returned (.int .i64 (GO g.procs s))/\Ext w w':=by
 have X:=eU w;have h:=h.ltA;refine Ac func29 ntmps29 rfl rfl ?_;refine cS (eB [_,_,_,_,_,_] ?_);intro b1 w2 G x5 p6 z7;revert X h;refine eE x5 ?_;intro X h;refine eB [_] ?_;intro b8 w9 F L aa ab;revert G X h;refine eE L ?_;intro G X h;refine eK ?_;refine C1 (D9 rfl) (cC rfl (Wi _ O s _ _ _ _ _ Ae Ae) ?_);rintro _ ac ⟨⟨⟩,M⟩;revert F G X h;refine eY M ?_;intro ad F G X h;refine eK ?_;refine xR ?_;exact ⟨rfl,X⟩
def Yf (a:oA) (n c:Nat) (w:wD) (h:n<=c) (F:n<=1000000):Calls prog 101 #[.slice a n c] w fun e w'=>e = .returned (.slice a n n)/\w=w':=by
 refine Ac func101 ntmps101 rfl rfl ?_;refine eK ?_;refine C1 (QE Ad rfl rfl rfl rfl rfl h) ?_;refine eK ?_;refine xR ?_;exact ⟨rfl,rfl⟩
def Ln (a:oA) (n c:Nat) (w:wD) (h:n<=c) (F:n<=1000000):Calls prog 102 #[.slice a n c] w fun e w'=>e = .returned (.slice a n n)/\w=w':=by
 refine Ac func102 ntmps102 rfl rfl ?_;refine eK ?_;refine C1 (QE Ad rfl rfl rfl rfl rfl h) ?_;refine eK ?_;refine xR ?_;exact ⟨rfl,rfl⟩
section
variable {α:Type} {c:α->Value} {S S' T:nP} {w w':wD} {l:List α} {a:oA}
end
def S7 {α:Type} (c:α->Value) (h1 : ∀x,fP (c x)=true):Shape α where
 sz:=1
 rep:=fun _ _ v cs=>cs=[c v]
 len:=fun h=>by rw [h];rfl
 one:=fun h=>by rw [h];simp [h1]
 mono:=fun h _ _=>h
 lt:=fun h=>h
abbrev aY (i:Int):Value:=.int .i64 i
abbrev Ms:Shape Int:=S7 aY (fun _=>rfl)
abbrev strShape:Shape lB:=S7 str (fun _=>rfl)
def Fh (l:List Nd) (j:Nat):List lB:=(l.take j).map fQ++dJ (l.length-j) []
def QF (l:List Nd) (j:Nat) (h:j<=l.length):(Fh l j).length=l.length:=by simp [Fh];omega
def QG (l:List Nd) (j:Nat) (h:j<l.length):(Fh l j).set j (l[j]).name=Fh l (j+1):=by
 unfold Fh;have F:((l.take j).map fQ).length=j:=by simp;omega
 have G:(dJ (l.length-j) ([]:lB))=[]::dJ (l.length-(j+1)) []:=by
  rw [show l.length-j=(l.length-(j+1))+1 by omega,List.replicate_succ]
 rw [List.set_append_right _ _ Ab,F,Nat.sub_self,G,List.set_cons_zero,dG h,List.map_append,dP];rfl
def QH (l:List Nd):Fh l l.length=l.map fQ:=by simp [Fh]
def ArrS.rowsStr {C D g:Nat} {w:wD} {xs:List lB} (h:ArrS strShape C D w g xs) {S:nP} (G:S g):Rows S w (xs.map str) (some ⟨g,0,none⟩):=by
 refine bX ⟨g,0,rfl,G,fun i v F=>?_⟩;rw [dZ] at F;cases hx:xs[i]? with
 | none=>rw [hx] at F;cases F
 | some x=>
  rw [hx] at F;obtain rfl:=cD F;obtain ⟨cs,L,rfl⟩:=h.row hx;have:=L.at0 rfl;rw [show strShape.sz=1 from rfl,Nat.mul_one,eJ] at this;have e:(⟨g,0,none⟩:Addr).add i=⟨g,i,none⟩:=by unfold eG;by_cases M:i=0<;>simp [M]
  rw [e];exact this
section
variable {c:RC} {P P':nP} {w w':wD} {r:Rn} {T:nP}
def Run.ent (h:Run c P w r) : ∃es:List Int,es.length=c.g.procs.length/\Blk w c.eb (ints es):=by
 obtain ⟨_,_,h⟩:=h;exact h.ent
def Run.offE (h:Run c P w r) : ∀k,P k -> ¬k=c.eb:=by
 obtain ⟨_,_,h⟩:=h;exact fun k F e=>(h.off k F).1 (by rw [e,h.rolE];exact bX (bX rfl))
def Run.neER (h:Run c P w r):c.rb≠c.eb:=by
 obtain ⟨_,_,h⟩:=h;intro e;have F:=h.role;rw [e,h.rolE] at F;simp at F
def Run.procs (h:Run c P w r):PDs c.S w c.g.procs c.pa:=by
 obtain ⟨_,_,h⟩:=h;exact h.procs
def Run.bump (h:Run c P w r) (x:Fr (· = c.eb) w w') {es:List Int} (O:es.length=c.g.procs.length) (U:Blk w' c.eb (ints es)):Run c P w' r:=by
 obtain ⟨ρ,κ,N,M,V,X,-,Y,Z,h9,L,G⟩:=h;have hs:=x.size;have hP : ∀k,P k -> ¬k=c.eb:=fun k F e=>(G k F).1 (by rw [e,M];exact bX (bX rfl))
 refine ⟨ρ,κ,N,M,V,X.fr x (fun e=>by rw [show c.rb=c.eb from e,M] at N;simp at N),⟨es,O,U⟩,Y.fr x (fun k F e=>by rw [show k=c.eb from F,M] at e;exact e),Z,h9.frS x (fun k F e=>hP k (L k F) e),L,fun k F=>⟨(G k F).1,by have:=(G k F).2;omega⟩⟩
def QI {P:Program} {m:Nat} {l:Sl} {tab:Tab} {ty:TypeId} {w:wD} {x y:Operand} {t g i:Nat} {s:Sk} {xs:List Int} {u:Int} (TT:TabOk P tab) (ht:Az tab t=some (s,1)) (hx:ev l x=some (.pointer (some ⟨g,0+i*1,none⟩))) (hy:ev l y=some (.int .i64 u))
 (hb:Blk w g (ints xs)) (hi:i<xs.length) :
 B5 P m l (.store t x y) ty w (I9 fun w'=>Blk w' g (ints (xs.set i u))/\Fr (· = g) w w'/\w'.heap.size=w.heap.size):=by
 have hd:=GW (P:=P) (n:=m) (l:=l) (ty:=ty) (us:=[.int .i64 u]) TT ht hx hy rfl rfl rfl hb (by rw [Nat.ble_eq];simp [ints];omega);unfold B5 at hd ⊢;intro a dst pos after gd next Q ha hn b;refine hd a dst pos after gd next Q ha (fun v' w' h=>h.elim) (fun w' hP=>b w' ⟨?_,hP.fr,hP.size⟩);have h1:=hP.blk;rw [eJ,Nat.mul_one] at h1;simpa [Bl,ints,List.map_set] using h1
structure ProcsOk (g:PG):Prop where
 few:g.procs.length<=1000000
 blk : ∀p∈g.procs,p.body.isBlock=true/\StOk g.procs p.body/\p.params.length<=1000
def Wj (hc:c.fuel<=10000) (hg:ProcsOk c.g) {d:Nat} (IH:Fb c d) (b:Bool) {k n:Int} {s:List UInt8} {l:List Nd} {i:Nat} (hp:Cf c.g.procs s=some i) (hl:l.length<=8) (a:Option Addr) (m:Nat) (w:World)
 (be:((A7 r).bind fun r=>(CI (·.enters (c.g.procs.getD i ⟨[],[],.mk 0 0 [] []⟩).params (l.map fQ)) r).bind fun r=>
  (AD (Au c.g.procs d) b (c.g.procs.getD i ⟨[],[],.mk 0 0 [] []⟩).body r).bind fun r=>(A7 r).bind (CI (·.leaves)))≠.error (-1)) (hs:(Nd.mk k n s l).sits P w a) (h:Run c P w r) :
 Calls prog 133 #[.pointer (some ⟨c.rb,0,none⟩),(Nd.mk k n s l).val a m,.bool b] w (D0 c P ((A7 r).bind fun r=>(CI (·.enters (c.g.procs.getD i ⟨[],[],.mk 0 0 [] []⟩).params (l.map fQ)) r).bind fun r=>
  (AD (Au c.g.procs d) b (c.g.procs.getD i ⟨[],[],.mk 0 0 [] []⟩).body r).bind fun r=>(A7 r).bind (CI (·.leaves))) w):=by
 have X:=eU w;have HR:=bU h;have bf:=h.lt
 have hi:i<c.g.procs.length:=by
  unfold Cf at hp
  exact (List.findIdx?_eq_some_iff_getElem.1 hp).1
 obtain ⟨p,bq⟩ : ∃p,p=c.g.procs.getD i ⟨[],[],.mk 0 0 [] []⟩:=⟨_,rfl⟩
 rw [<-bq] at be ⊢
 have bw:c.g.procs[i]? = some p:=by rw [bq,cB,bT hi];rfl
 clear bq;obtain ⟨cc,cd,ce⟩:=hg.blk p (dL bw);have HP:=bU (fun w1 h1=>OS c.g hg.few s c.S c.va c.vc c.pa c.pc c.ma c.mc w1 h1);rw [show GO c.g.procs s=(i:Int) by unfold GO;rw [hp]] at HP;have hs:rowSits P w l a:=hs;obtain ⟨B1,br⟩ : ∃B1,B1=AD (Au c.g.procs d) b p.body:=⟨_,rfl⟩
 rw [<-br] at be ⊢
 obtain ⟨Z,hZ⟩ : ∃Z,Z=((A7 r).bind fun r=>(CI (·.enters p.params (l.map fQ)) r).bind fun r=>(B1 r).bind fun r=>(A7 r).bind (CI (·.leaves))):=⟨_,rfl⟩
 rw [<-hZ] at be ⊢
 clear h hp
 change Calls prog _ #[_,.agg #[.int .u8 k,.int .i64 n,str s,.slice a l.length m],_] w _
 refine Ac func133 ntmps133 rfl rfl ?_
 refine cS ?_;refine JA [_,_,_,_] rfl rfl rfl ?_;intro b1 w2 n3;have U:=n3.blk;have x5:=n3.ext;have p6:=n3.pos;have z7:=n3.size;clear n3 hs;replace X:=X.ext x5;replace hs:=fY hs x5;clear x5;refine cN (C1 Pf (C1 (Pl U) (C1 Pz ?_)));refine AC (FH (sh:=strShape) (C:=0) (D:=0) (N:=l.length) (z:=[]) Ad CY rfl rfl rfl rfl A9 rfl rfl Ab (fun _ _=>rfl)) rfl ?_ aFh;rintro _ cf ⟨g8,⟨rfl,⟨h9,⟨dh,⟨di,a2⟩⟩⟩⟩⟩;have dk:=a2.size;replace U:=U.ext a2;replace X:=X.ext a2;replace hs:=fY hs a2;clear a2;refine C1 Pa (cT (Ai (cS (C1 Pf (C1 (Pl U) (C1 Pz (C1 Mv (cT ?_))))))))
 have hA:ArrS strShape 0 0 cf g8 (Fh l 0):=by simpa [Fh] using h9
 clear h9;refine Av ?_;refine A1 (ι:=Nat) (fun j=>[(0,.pointer (some ⟨c.rb,0,none⟩)),(2,.bool b),(4,.pointer (some ⟨b1,0,none⟩)),(6,.slice (some ⟨g8,0,none⟩) l.length l.length),(16,.slice a l.length m),(17,.int .i64 l.length),(18,.int .i64 j)])
  (fun j w'=>j<=l.length/\ArrS strShape 0 0 w' g8 (Fh l j)/\Blk w' b1 [.int .u8 k,.int .i64 n,str s,.slice a l.length m]/\rowSits P w' l a/\Ext w w'/\b1+2<=w'.heap.size)
  (fun j=>l.length-j) 0 sB ⟨cQ _,hA,U,hs,X,Ab⟩ ?_
 clear hA U hs X;rintro j w1 ⟨hj,hA,U,hs,X,hz⟩
 by_cases a3:j<l.length
 . obtain ⟨kb,ko,rfl,dl,bh⟩:=BA hs (by intro e;subst e;simp at a3);obtain ⟨xa,xc,rx,sx⟩:=bh j l[j] (bT a3);have bt:=QG l j a3;have dm:=QF l j hj;clear bh
   generalize l[j]=x at *
   obtain ⟨xk,xn,xs,xl⟩:=x;replace rx:Row w1 ⟨kb,ko+j*4,none⟩ [.int .u8 xk,.int .i64 xn,str xs,.slice xa xl.length xc]:=rx
   focus
    refine cS (C1 V3 (cT (Ai (Vf (Am (Ag (Ai (Av (cS (C1 Mv (C1 Pi ?_)))))))))));refine C1 (W7 rx) ?_;refine eA [_,_,_,_] ?_;intro dn dp bx ax dq dr;replace hA:=hA.ext ax;replace X:=X.ext ax;replace U:=U.ext ax;replace hs:=fY hs ax;replace sx:=gH sx ax;replace rx:=rx.ext ax;clear ax;refine C1 Pa ?_;refine eS [_,_,_,_] bx ?_;intro ds a4 aq cm;clear bx;replace hA:=hA.fr aq Ab;replace X:=X.fr aq Ab;replace U:=U.fr aq Ab;replace hs:=fO hs aq (fun b O h=>by (have h1:=bf b O;have e:b=_:=h;omega));replace sx:=eW sx aq (fun b O h=>by (have h1:=bf b O;have e:b=_:=h;omega));clear rx aq;refine cT (Aj (C1 Mv (C1 Mv (C1 Pf (C1 (Pl a4) (C1 Pi ?_))))));refine Br (CJ (sh:=strShape) (j:=j) (z:=xs) (us:=[_]) Ad rfl rfl rfl rfl rfl rfl Ae Ab Ab rfl) ?_;refine Cg ?_;rintro _ cn ⟨co,⟨an,cp⟩⟩;have cq:=an.size;replace a4:=a4.fr an Ab;clear hA;replace X:=X.fr an Ab;replace U:=U.fr an Ab;replace hs:=fO hs an (fun b O h=>by (have h1:=bf b O;have e:b=_:=h;omega));replace sx:=eW sx an (fun b O h=>by (have h1:=bf b O;have e:b=_:=h;omega));clear an;refine Ak (Af (Ag (Aj (C1 V7 (C1 Mv (Ak ?_))))))
    rotate_left
   exact AI (j+1) sB ⟨Ab,by rw [<-bt];assumption,Ae,Ae,X,Ab⟩ Ab
 . obtain rfl:j=l.length:=by omega
   rw [QH] at hA
   refine cS (C1 V3 (cT (Ai (Ds (Eg (A8 (A8 (BQ (Ag ?_)))))))))
   have ac:=(HR.out.ext X).blk;have ap:=(HR.out.ext X).procs;obtain ⟨pb,po,cg,bz,bi⟩:=ap.get (by intro e;rw [e] at hi;simp at hi);obtain ⟨qa,qc,ba,bc,rp,rv,sb⟩:=bi i p bw;have M:=HR.out.sub;rw [cg] at ac ap HP;clear bi;obtain ⟨pn,b0,ch⟩:=p;obtain ⟨bk,bn,bs,bl⟩:=ch;dsimp only at *
   refine Ai ?_;refine Ar (fun wz=>Ext w1 wz) 6 (.pure 0 (.pure 1 (.pure 2 (.pure 3 (.pure 4 (.pure 5 .tail)))))) mixed A9 (Aa Ah) ?_;intro ci am _;have a5:(fun wz=>Ext w1 wz) ci:=am;simp only at a5;have ay:=U;have b2:=hs;have b3:=hA;have bu:=ap;have a6:=ac;have a7:=rp;have a8:=rv;have a9:=sb;have dt:=am.size;replace U:=U.ext am;replace hs:=fY hs am;replace X:=X.ext am;replace hA:=hA.ext am;replace ap:=ap.ext am;replace ac:=ac.ext am;replace rp:=rp.ext am;replace rv:=rv.ext am;replace sb:=gH sb am;clear am;refine ⟨a5,?_⟩;refine Tq rfl Mv (Tq rfl Pn (Tq rfl Pg (Tq rfl (By [_,_,_,_,_,_] Ad rfl rfl rfl (fun wz hz=>(fH a6 hz)) rfl rfl) (Tq rfl Pf (Tq rfl (Db ay) ?_)))));clear a5 ay b2 b3 bu a6 a7 a8 a9;refine At rfl ?_;refine cC rfl (HP.out _ Ae) ?_;rintro _ du ⟨⟨⟩,ao⟩;have dv:=ao.size;replace U:=U.ext ao;replace hs:=fY hs ao;replace X:=X.ext ao;replace hA:=hA.ext ao;replace ap:=ap.ext ao;replace ac:=ac.ext ao;replace rp:=rp.ext ao;replace rv:=rv.ext ao;replace sb:=gH sb ao;clear ao;refine C1 Pa (cN (C1 Mv (C1 Pn (C1 Pg (C1 Pf (C1 (Pl ac) (C1 Mv (C1 Pi (C1 (W7 rp) ?_)))))))));refine Iv [_,_,_,_,_,_] CY rfl rfl ?_;intro dw cj ah;refine Dd [_,_,_,_,_,_] Ad rfl rfl rfl rfl rfl rfl ah rfl ?_
   clear ah;clear cj;intro ad ah;have G:=ah.blk;dsimp only at G;have Y:=ah.ext;have cr:=ah.pos;have ct:=ah.size;clear ah;replace U:=U.ext Y;replace hs:=fY hs Y;replace X:=X.ext Y;replace hA:=hA.ext Y;replace ap:=ap.ext Y;replace ac:=ac.ext Y;replace rp:=rp.ext Y;replace rv:=rv.ext Y;replace sb:=gH sb Y;clear Y;refine cT ?_
   have h1:=HR.out.more X;have L:Rows (Ci P w ad) ad ((l.map fQ).map str) (some ⟨g8,0,none⟩):=hA.rowsStr (bX ⟨Ab,Ab⟩);have F:Fr (fun k=> ¬P k) w ad:=fE X;clear X hs hA ac ap;have HS:=bU (fun r1 w1 h=>Mq (c:=c) (P:=Ci P w ad) (r:=r1) hc w1 h)
   unfold D0 at HS
   have HE:=bU (fun r1 w1 h1 h2 h3=>Yc (c:=c) (P:=Ci P w ad) (r:=r1) hc b0 (l.map fQ) ce qa (some ⟨g8,0,none⟩) qc l.length w1 h1 h2 h3);simp only [List.length_map] at HE;have HC:=bU (fun e w1=>IE e (.pointer (some ⟨c.rb,0,none⟩)) w1)
   unfold R6 at HC
   focus
    refine cS (C1 Mv ?_);refine A3 (AK A9 rfl (HS.out _ _ Ae) (fun _ _ h=>h.ret)) rfl ?_ ?_;rotate_left;intro dx dy ck
    rotate_right 1
    rintro _ bj ⟨bm,⟨⟨⟩,⟨ar,⟨az,ae⟩⟩⟩⟩;have cu:=ae.size;replace G:=fB G ae (fun h=>h (bX ⟨Ab,Ab⟩));replace U:=fB U ae (fun h=>h (bX ⟨Ab,Ab⟩));replace rp:=Row.fr rp ae (fun h=>h (bW (M _ bz)));replace rv:=gC rv ae (fun b O h=>h (bW (M _ O)));replace sb:=eW sb ae (fun b O h=>h (bW (M _ O)));replace L:=Rows.fr L ae (fun b O h=>h O);replace F:=fJ F ae (fun k hk=>bW (fun h=>hk (bW h)));clear ae;refine cT (Ai ?_);refine Ar (fun wz=>Fr ((fun k=> ¬(Ci P w ad k\/k=c.rb))) bj wz) 9 (.pure 0 (.pure 1 (.pure 2 (.pure 3 (.pure 4 (.pure 5 (.pure 6 (.pure 7 (.fork 8 .tail .none))))))))) mixed A9 (Aa Ah) ?_;intro b4 V _;have ag:(fun wz=>Fr ((fun k=> ¬(Ci P w ad k\/k=c.rb))) bj wz) b4:=fE V;simp only at ag;have a0:=az;have a1:=G;have ay:=U;have a7:=rp;have a8:=rv;have a9:=sb;have bg:=L;have cv:=V.size;replace az:=az.ext V;replace G:=G.ext V;replace U:=U.ext V;replace rp:=rp.ext V;replace rv:=rv.ext V;replace sb:=gH sb V;replace L:=L.ext V;replace F:=F.ext V;clear V;refine ⟨ag,?_⟩;refine Tq rfl Mv (Tq rfl Mv (Tq rfl Pn (Tq rfl Pf ?_)));refine Tq rfl (An Ad rfl rfl rfl (fun wz hz=>fD (fB (Run.blk a0) hz (by first|omega|(dsimp only;omega))) rfl)) ?_
    refine Tq rfl Pf ?_;refine Tq rfl (An Ad rfl rfl rfl (fun wz hz=>fD (fB a1 hz (fun h=>h (bW (bX ⟨Ab,Ab⟩)))) rfl)) ?_;refine Tq rfl Mv ?_;refine Ax rfl (AU A9 rfl (HE.out _ _ Ae (VDs.wide Ae (fun b h=>bW (M _ h))) Ae) (fun _ _ h=>⟨_,h.1⟩)) rfl ?_ aFh Aw;rintro _ cw ⟨⟨⟩,⟨ai,aa⟩⟩;have cx:=aa.size;replace ag:=fJ ag aa (fun k hk=>bW hk);replace G:=fB G aa (fun h=>h (bW (bX ⟨Ab,Ab⟩)));replace U:=fB U aa (fun h=>h (bW (bX ⟨Ab,Ab⟩)));replace rp:=Row.fr rp aa (fun h=>h (bW (bW (M _ bz))));replace rv:=gC rv aa (fun b O h=>h (bW (bW (M _ O))));replace sb:=eW sb aa (fun b O h=>h (bW (bW (M _ O))));replace L:=Rows.fr L aa (fun b O h=>h (bW O));replace F:=fJ F aa (fun k hk=>bW (fun h=>hk (bW (bW h))));clear aa;refine ⟨ag,?_⟩;clear a0 a1 ay a7 a8 a9 bg ag;refine At rfl ?_;refine A3 (AK A9 rfl (HC.out _ _) (fun _ _ h=>⟨_,h.1⟩)) rfl ?_ ?_;rotate_left;intro cy cz b5
    rotate_right 1
    rintro _ bo ⟨⟨⟩,⟨aw,ab⟩⟩;have c0:=ab.size;replace ai:=ai.ext ab;replace G:=G.ext ab;replace U:=U.ext ab;replace rp:=rp.ext ab;replace rv:=rv.ext ab;replace sb:=gH sb ab;replace L:=L.ext ab;replace F:=F.ext ab;clear ab;refine cT ?_;rotate_left;refine AE (AB ?_);rotate_left;refine AE (AB ?_);rotate_left
   . obtain ⟨es,dz,bv⟩:=ai.ent;have au:=ai.offE
     have b6:Row bo ⟨c.eb,0+i*1,none⟩ [.int .i64 (es.getD i 0)]:=fun j v hj=>by
      cases j with
      | zero=>
       simp only [dF,cE] at hj;subst hj;rw [eJ,Nat.mul_one]
       exact bv.cell (by simp [ints,bT (show i<es.length by omega),cB])
      | succ j=>simp at hj
     have c1:=bv.lt;have ac:=ai.blk;have H1:=bU ai;have d0:=ai.neER;have F2:=fC (· = c.eb) bo;have HF:=bU F;clear ai az F
     refine cS (C1 Mv (C1 Pn (C1 Pf (C1 (Pl ac) (C1 Mv (C1 Pi (C1 (TA b6) (C1 (LD rfl rfl) (C1 Pi ?_)))))))));refine Br (QI Ad rfl rfl rfl Ae Ab) ?_;refine Cg ?_;rintro _ d1 ⟨b7,⟨av,d2⟩⟩;have d3:=av.size;replace G:=fB G av (fun e=>au _ (bX ⟨Ab,Ab⟩) e);replace U:=fB U av (fun e=>au _ (bX ⟨Ab,Ab⟩) e);clear rp;replace rv:=gC rv av (fun b O e=>au b (bW (M _ O)) e);replace sb:=eW sb av (fun b O e=>au b (bW (M _ O)) e);replace L:=L.fr av Ab;clear bv b6;replace ac:=fB ac av (fun e=>au _ (bX ⟨Ab,Ab⟩) e);replace F2:=F2.fr av Ab;clear av;refine cT ?_
     have h2:=H1.out.bump F2 (by rw [List.length_set];omega) b7;have F:=HF.out.fr F2 (fun k hk=>bW (fun h=>au k (bW h) hk));clear F2 b7;have HL:=bU (fun r1 w1 h=>Yb (c:=c) (P:=Ci P w ad) (r:=r1) hc w1 h);have HY:=bU (fun w1 h1 h2=>IH (Ci P w ad) b (.mk bk bn bs bl) ⟨(bm.st.enters b0 (l.map fQ)).2,bm.rem⟩ ba bc w1 cc cd (fun e4=>be (by rw [hZ];simp only [ar,cJ,CI,aw,ne_eq,not_true,if_false];rw [br,e4])) h1 h2)
     rw [<-br] at HY
     unfold D0 at HY
     focus
      refine cS (C1 Mv (C1 Pf (Cd [_,_,_,_] Ad rfl rfl rfl G rfl rfl rfl (C1 Mv ?_))));refine A3 (AK A9 rfl (HY.out _ (eX Ae (fun b h=>bW (M _ h))) Ae) (fun _ _ h=>h.ret)) rfl ?_ ?_;rotate_left;intro d4 d5 cl
      rotate_right 1
      rintro _ c2 ⟨c3,⟨⟨⟩,⟨bb,⟨c4,aj⟩⟩⟩⟩;have c5:=aj.size;replace G:=fB G aj (fun h=>h (bX ⟨Ab,Ab⟩));replace U:=fB U aj (fun h=>h (bX ⟨Ab,Ab⟩));replace rv:=gC rv aj (fun b O h=>h (bW (M _ O)));replace sb:=eW sb aj (fun b O h=>h (bW (M _ O)));replace L:=Rows.fr L aj (fun b O h=>h O);clear ac;replace F:=fJ F aj (fun k hk=>bW (fun h=>hk (bW h)));clear aj;refine cN (C1 Mv ?_);refine A3 (AK A9 rfl (HS.out _ _ Ae) (fun _ _ h=>h.ret)) rfl ?_ ?_;rotate_left;intro c6 c7 b8
      rotate_right 1
      rintro _ c8 ⟨c9,⟨⟨⟩,⟨bp,⟨b9,ak⟩⟩⟩⟩;have da:=ak.size;replace G:=fB G ak (fun h=>h (bX ⟨Ab,Ab⟩));replace U:=fB U ak (fun h=>h (bX ⟨Ab,Ab⟩));replace rv:=gC rv ak (fun b O h=>h (bW (M _ O)));replace sb:=eW sb ak (fun b O h=>h (bW (M _ O)));replace L:=Rows.fr L ak (fun b O h=>h O);replace F:=fJ F ak (fun k hk=>bW (fun h=>hk (bW h)));clear ak;refine cT (Aj (C1 Mv (C1 Mv (C1 Pn (C1 Pf (C1 (Pl (Run.blk b9)) ?_))))));refine cC rfl (HL.out _ _ Ae) ?_;rintro _ db ⟨⟨⟩,⟨bd,al⟩⟩;have dc:=al.size;replace G:=fB G al (fun h=>h (bW (bX ⟨Ab,Ab⟩)));replace U:=fB U al (fun h=>h (bW (bX ⟨Ab,Ab⟩)));replace rv:=gC rv al (fun b O h=>h (bW (bW (M _ O))));replace sb:=eW sb al (fun b O h=>h (bW (bW (M _ O))));replace L:=Rows.fr L al (fun b O h=>h (bW O));replace F:=fJ F al (fun k hk=>bW (fun h=>hk (bW (bW h))));clear al;refine A3 (AK A9 rfl (HC.out _ _) (fun _ _ h=>⟨_,h.1⟩)) rfl ?_ ?_;rotate_left;intro dd de ca
      rotate_right 1
      rintro _ df ⟨⟨⟩,⟨cb,af⟩⟩;have dg:=af.size;replace bd:=bd.ext af;replace G:=G.ext af;replace U:=U.ext af;replace rv:=rv.ext af;replace sb:=gH sb af;replace L:=L.ext af;replace F:=F.ext af;clear af;refine Ak (Bs rfl ?_);rotate_left;refine AB ?_;rotate_left;refine AE (AB ?_);rotate_left;refine AE (AB ?_);rotate_left
     . exact Fa bd F HR.out.sub (fun k=>bW) (by rw [hZ];simp only [ar,aw,bb,bp,cb,cJ,CI,ne_eq,not_true,not_false_iff,if_false,if_true])
     . exact EA ca F (fun e=>by rw [hZ];simp only [ar,aw,bb,bp,cJ,CI,ne_eq,not_true,not_false_iff,if_false,if_true];rw [AG e])
     . exact BC b8 F (fun k=>bW) (fun er e=>by rw [hZ];simp only [ar,aw,bb,e,cJ,CI,ne_eq,not_true,not_false_iff,if_false,if_true])
     . exact BC cl F (fun k=>bW) (fun er e=>by rw [hZ];simp only [ar,aw,e,cJ,CI,ne_eq,not_true,not_false_iff,if_false,if_true])
   . exact EA b5 F (fun e=>by rw [hZ];simp only [ar,cJ,CI,ne_eq,not_true,not_false_iff,if_false,if_true];rw [AG e])
   . exact BC ck F (fun k=>bW) (fun er e=>by rw [hZ];simp only [e,cJ,CI,ne_eq,not_true,not_false_iff,if_false,if_true])
end
section
variable {c:RC} {P P':nP} {w w':wD} {r:Rn} {T:nP}
def Yg (Y:c.fuel<=10000) {d:Nat} (IH:Fb c d) (b:Bool) {n:Int} {s:lB} {x y z u:Nd} (hx:x.isExpr=true) (hy:y.isBlock=true) (hz:z.isBlock=true) (hu:u.isExpr=true) (N:StOk c.g.procs (.mk 52 n s [x,y,z,u])) (a:oA) (m:Nat) (w:wD)
 (G:Au c.g.procs (d+1) b (.mk 52 n s [x,y,z,u]) r≠.error (-1)) (O:rowSits P w [x,y,z,u] a) (h:Run c P w r) :
 Calls prog 108 #[.pointer (some ⟨c.rb,0,none⟩),.agg #[.int .u8 52,.int .i64 n,str s,.slice a 4 m],.bool b] w (D0 c P (Au c.g.procs (d+1) b (.mk 52 n s [x,y,z,u]) r) w):=by
 have X:=eU w;have U:=bU h;have F:=fC (fun k=> ¬P k) w;clear h;obtain ⟨Z,L⟩ : ∃Z,Z=Au c.g.procs (d+1) b (.mk 52 n s [x,y,z,u]) r:=⟨_,rfl⟩
 rw [<-L] at G ⊢;replace L:Z=((BL (if b then u else x) r).bind fun p=>(AD (Au c.g.procs d) b (if p.1 then y else z) p.2).bind (Bp (if b then x else u) p.1)):=by rw [L];unfold Au;cases b<;>rfl
 have HB:Hid (∀(PP:nP) (w1:wD),rowSits PP w1 [x,y,z,u] a->Run c PP w1 r->Calls prog 126 #[.pointer (some ⟨c.rb,0,none⟩),.agg #[.int .u8 52,.int .i64 n,str s,.slice a 4 m],.bool b] w1 (TC (RunA c PP Z w1) (QA PP Z w1))):=
  bU (fun PP w1 h1 h2=>by have V:=Wg (c:=c) (P:=PP) (r:=r) Y IH b hx hy hz hu N a m w1 (by rw [<-L];exact G) h1 h2;rw [<-L] at V;exact V)
 refine Ac func108 ntmps108 rfl rfl ?_
 focus
  refine cS (eB [_,_,_,_] ?_);intro b1 w2 h4 x5 p6 z7;revert O X F;refine eE x5 ?_;intro O X F;refine eK ?_;refine A3 (AK A9 rfl (HB.out (Ci P w w2) _ (Dy Ae (fun b h=>bW h)) (U.out.more X)) (fun _ _ h=>h.ret)) rfl ?_ ?_;rotate_left;intro aa ab ac
  rotate_right 1
  rintro _ ad ⟨ae,⟨⟨⟩,⟨rfl,⟨af,M⟩⟩⟩⟩;have z21:=M.size;clear h4 O;have F:=fJ F M (fun k hk=>bW (fun h=>hk (bW h)));refine Ak (Af (Bs rfl ?_));rotate_left;refine AS (AB ?_);rotate_left
 . exact Fa Ae F U.out.sub (fun k=>bW) rfl
 . exact BC Ae F (fun k=>bW) aFh
def Z7 (Y:c.fuel<=10000) {d:Nat} (IH:Fb c d) (b:Bool) {n:Int} {s:lB} {x y z u:Nd} (hx:x.isExpr=true) (hy:y.isBlock=true) (hz:z.isBlock=true) (hu:u.isExpr=true) (N:StOk c.g.procs (.mk 53 n s [x,y,z,u])) (a:oA) (m:Nat) (w:wD)
 (G:Au c.g.procs (d+1) b (.mk 53 n s [x,y,z,u]) r≠.error (-1)) (O:rowSits P w [x,y,z,u] a) (h:Run c P w r) :
 Calls prog 108 #[.pointer (some ⟨c.rb,0,none⟩),.agg #[.int .u8 53,.int .i64 n,str s,.slice a 4 m],.bool b] w (D0 c P (Au c.g.procs (d+1) b (.mk 53 n s [x,y,z,u]) r) w):=by
 have X:=eU w;have U:=bU h;have F:=fC (fun k=> ¬P k) w;clear h;obtain ⟨Z,L⟩ : ∃Z,Z=Au c.g.procs (d+1) b (.mk 53 n s [x,y,z,u]) r:=⟨_,rfl⟩
 rw [<-L] at G ⊢;replace L:Z=((Bp (if b then u else x) true r).bind (Cs (AD (Au c.g.procs d) b y) (AD (Au c.g.procs d) b z) (if b then x else u) (if b then u else x) d)):=by rw [L];unfold Au;cases b<;>rfl
 have HB:Hid (∀(PP:nP) (w1:wD),rowSits PP w1 [x,y,z,u] a->Run c PP w1 r->Calls prog 127 #[.pointer (some ⟨c.rb,0,none⟩),.agg #[.int .u8 53,.int .i64 n,str s,.slice a 4 m],.bool b] w1 (TC (RunA c PP Z w1) (QA PP Z w1))):=
  bU (fun PP w1 h1 h2=>by have V:=Zw (c:=c) (P:=PP) (r:=r) Y IH b hx hy hz hu N a m w1 (by rw [<-L];exact G) h1 h2;rw [<-L] at V;exact V)
 refine Ac func108 ntmps108 rfl rfl ?_
 focus
  refine cS (eB [_,_,_,_] ?_);intro b1 w2 h4 x5 p6 z7;revert O X F;refine eE x5 ?_;intro O X F;refine eK ?_;refine A3 (AK A9 rfl (HB.out (Ci P w w2) _ (Dy Ae (fun b h=>bW h)) (U.out.more X)) (fun _ _ h=>h.ret)) rfl ?_ ?_;rotate_left;intro aa ab ac
  rotate_right 1
  rintro _ ad ⟨ae,⟨⟨⟩,⟨rfl,⟨af,M⟩⟩⟩⟩;have z21:=M.size;clear h4 O;have F:=fJ F M (fun k hk=>bW (fun h=>hk (bW h)));refine Ak (Af (Bs rfl ?_));rotate_left;refine AS (AB ?_);rotate_left
 . exact Fa Ae F U.out.sub (fun k=>bW) rfl
 . exact BC Ae F (fun k=>bW) aFh
def Zx (Y:c.fuel<=10000) {d:Nat} (IH:Fb c d) (b:Bool) {n:Int} {s:lB} {x y z:Nd} (hx:x.isExpr=true) (hy:y.isBlock=true) (hz:z.isExpr=true) (N:StOk c.g.procs (.mk 54 n s [x,y,z])) (a:oA) (m:Nat) (w:wD)
 (G:Au c.g.procs (d+1) b (.mk 54 n s [x,y,z]) r≠.error (-1)) (O:rowSits P w [x,y,z] a) (h:Run c P w r) :
 Calls prog 108 #[.pointer (some ⟨c.rb,0,none⟩),.agg #[.int .u8 54,.int .i64 n,str s,.slice a 3 m],.bool b] w (D0 c P (Au c.g.procs (d+1) b (.mk 54 n s [x,y,z]) r) w):=by
 have X:=eU w;have U:=bU h;have F:=fC (fun k=> ¬P k) w;clear h;obtain ⟨Z,L⟩ : ∃Z,Z=Au c.g.procs (d+1) b (.mk 54 n s [x,y,z]) r:=⟨_,rfl⟩
 rw [<-L] at G ⊢;replace L:Z=((A7 r).bind fun r=>(BH (if b then z else x) r).bind fun v=>(CI (·.opens ⟨s,1,0⟩ v) r).bind fun r=>(AD (Au c.g.procs d) b y r).bind fun r=>(A7 r).bind fun r=>(BH (if b then x else z) r).bind fun v=>CI (·.closes s v) r):=by rw [L];unfold Au;cases b<;>rfl
 have HB:Hid (∀(PP:nP) (w1:wD),rowSits PP w1 [x,y,z] a->Run c PP w1 r->Calls prog 128 #[.pointer (some ⟨c.rb,0,none⟩),.agg #[.int .u8 54,.int .i64 n,str s,.slice a 3 m],.bool b] w1 (TC (RunA c PP Z w1) (QA PP Z w1))):=
  bU (fun PP w1 h1 h2=>by have V:=Yd (c:=c) (P:=PP) (r:=r) Y IH b hx hy hz N a m w1 (by rw [<-L];exact G) h1 h2;rw [<-L] at V;exact V)
 refine Ac func108 ntmps108 rfl rfl ?_
 focus
  refine cS (eB [_,_,_,_] ?_);intro b1 w2 h4 x5 p6 z7;revert O X F;refine eE x5 ?_;intro O X F;refine eK ?_;refine A3 (AK A9 rfl (HB.out (Ci P w w2) _ (Dy Ae (fun b h=>bW h)) (U.out.more X)) (fun _ _ h=>h.ret)) rfl ?_ ?_;rotate_left;intro aa ab ac
  rotate_right 1
  rintro _ ad ⟨ae,⟨⟨⟩,⟨rfl,⟨af,M⟩⟩⟩⟩;have z21:=M.size;clear h4 O;have F:=fJ F M (fun k hk=>bW (fun h=>hk (bW h)));refine Ak (Af (Bs rfl ?_));rotate_left;refine AS (AB ?_);rotate_left
 . exact Fa Ae F U.out.sub (fun k=>bW) rfl
 . exact BC Ae F (fun k=>bW) aFh
def Yh (hc:c.fuel<=10000) {d:Nat} (IH:Fb c d) (b:Bool) (hg:ProcsOk c.g) {n:Int} {s:lB} {l:List Nd} {i:Nat} (O:Cf c.g.procs s=some i) (hl:l.length<=8) (aa:StOk c.g.procs (.mk 50 n s l)) (a:oA) (m:Nat) (w:wD)
 (G:Au c.g.procs (d+1) b (.mk 50 n s l) r≠.error (-1)) (N:rowSits P w l a) (h:Run c P w r) :
 Calls prog 108 #[.pointer (some ⟨c.rb,0,none⟩),.agg #[.int .u8 50,.int .i64 n,str s,.slice a l.length m],.bool b] w (D0 c P (Au c.g.procs (d+1) b (.mk 50 n s l) r) w):=by
 have X:=eU w;have U:=bU h;have F:=fC (fun k=> ¬P k) w;clear h;obtain ⟨Z,L⟩ : ∃Z,Z=Au c.g.procs (d+1) b (.mk 50 n s l) r:=⟨_,rfl⟩
 rw [<-L] at G ⊢;replace L:Z=((A7 r).bind fun r=>(CI (·.enters (c.g.procs.getD i ⟨[],[],.mk 0 0 [] []⟩).params (l.map fQ)) r).bind fun r=>(AD (Au c.g.procs d) (b != decide ((50:Int)=51)) (c.g.procs.getD i ⟨[],[],.mk 0 0 [] []⟩).body r).bind fun r=>(A7 r).bind (CI (·.leaves))):=by rw [L];rw [E7 _ _ _ Ab,O];rfl
 have HB:Hid (∀(PP:nP) (w1:wD) (q:Bool) (V:q=(b != decide ((50:Int)=51))),rowSits PP w1 l a->Run c PP w1 r->Calls prog 133 #[.pointer (some ⟨c.rb,0,none⟩),.agg #[.int .u8 50,.int .i64 n,str s,.slice a l.length m],.bool q] w1 (TC (RunA c PP Z w1) (QA PP Z w1))):=
  bU (fun PP w1 q V h1 h2=>by subst V;have Y:=Wj (k:=50) (n:=n) (c:=c) (P:=PP) (r:=r) hc hg IH (b != decide ((50:Int)=51)) O hl a m w1 (by rw [<-L];exact G) h1 h2;rw [<-L] at Y;exact Y)
 refine Ac func108 ntmps108 rfl rfl ?_
 focus
  refine cS (eB [_,_,_,_] ?_);intro b1 w2 h4 x5 p6 z7;revert N X F;refine eE x5 ?_;intro N X F;refine eK ?_;refine C1 (Mo Ad rfl rfl rfl) ?_;refine A3 (AK A9 rfl (HB.out (Ci P w w2) _ _ (by cases b<;>rfl) (Dy Ae (fun b h=>bW h)) (U.out.more X)) (fun _ _ h=>h.ret)) rfl ?_ ?_;rotate_left;intro ab ac ad
  rotate_right 1
  rintro _ ae ⟨af,⟨⟨⟩,⟨rfl,⟨ag,M⟩⟩⟩⟩;have z21:=M.size;clear h4 N;have F:=fJ F M (fun k hk=>bW (fun h=>hk (bW h)));refine Ak (Af (Bs rfl ?_));rotate_left;refine AS (AB ?_);rotate_left
 . exact Fa Ae F U.out.sub (fun k=>bW) rfl
 . exact BC Ae F (fun k=>bW) aFh
def Yi (hc:c.fuel<=10000) {d:Nat} (IH:Fb c d) (b:Bool) (hg:ProcsOk c.g) {n:Int} {s:lB} {l:List Nd} {i:Nat} (O:Cf c.g.procs s=some i) (hl:l.length<=8) (aa:StOk c.g.procs (.mk 51 n s l)) (a:oA) (m:Nat) (w:wD)
 (G:Au c.g.procs (d+1) b (.mk 51 n s l) r≠.error (-1)) (N:rowSits P w l a) (h:Run c P w r) :
 Calls prog 108 #[.pointer (some ⟨c.rb,0,none⟩),.agg #[.int .u8 51,.int .i64 n,str s,.slice a l.length m],.bool b] w (D0 c P (Au c.g.procs (d+1) b (.mk 51 n s l) r) w):=by
 have X:=eU w;have U:=bU h;have F:=fC (fun k=> ¬P k) w;clear h;obtain ⟨Z,L⟩ : ∃Z,Z=Au c.g.procs (d+1) b (.mk 51 n s l) r:=⟨_,rfl⟩
 rw [<-L] at G ⊢;replace L:Z=((A7 r).bind fun r=>(CI (·.enters (c.g.procs.getD i ⟨[],[],.mk 0 0 [] []⟩).params (l.map fQ)) r).bind fun r=>(AD (Au c.g.procs d) (b != decide ((51:Int)=51)) (c.g.procs.getD i ⟨[],[],.mk 0 0 [] []⟩).body r).bind fun r=>(A7 r).bind (CI (·.leaves))):=by rw [L];rw [E7 _ _ _ Ab,O];rfl
 have HB:Hid (∀(PP:nP) (w1:wD) (q:Bool) (V:q=(b != decide ((51:Int)=51))),rowSits PP w1 l a->Run c PP w1 r->Calls prog 133 #[.pointer (some ⟨c.rb,0,none⟩),.agg #[.int .u8 51,.int .i64 n,str s,.slice a l.length m],.bool q] w1 (TC (RunA c PP Z w1) (QA PP Z w1))):=
  bU (fun PP w1 q V h1 h2=>by subst V;have Y:=Wj (k:=51) (n:=n) (c:=c) (P:=PP) (r:=r) hc hg IH (b != decide ((51:Int)=51)) O hl a m w1 (by rw [<-L];exact G) h1 h2;rw [<-L] at Y;exact Y)
 refine Ac func108 ntmps108 rfl rfl ?_
 focus
  refine cS (eB [_,_,_,_] ?_);intro b1 w2 h4 x5 p6 z7;revert N X F;refine eE x5 ?_;intro N X F;refine eK ?_;refine C1 (Mo Ad rfl rfl rfl) ?_;refine A3 (AK A9 rfl (HB.out (Ci P w w2) _ _ (by cases b<;>rfl) (Dy Ae (fun b h=>bW h)) (U.out.more X)) (fun _ _ h=>h.ret)) rfl ?_ ?_;rotate_left;intro ab ac ad
  rotate_right 1
  rintro _ ae ⟨af,⟨⟨⟩,⟨rfl,⟨ag,M⟩⟩⟩⟩;have z21:=M.size;clear h4 N;have F:=fJ F M (fun k hk=>bW (fun h=>hk (bW h)));refine Ak (Af (Bs rfl ?_));rotate_left;refine AS (AB ?_);rotate_left
 . exact Fa Ae F U.out.sub (fun k=>bW) rfl
 . exact BC Ae F (fun k=>bW) aFh
def Zy (M:c.fuel<=10000) (hg:ProcsOk c.g) {d:Nat} (V:Fb c d):Wf c (d+1):=by
 intro P b t r a m w L F G N h;cases BT L with
 | upd U O X=>exact Lm M d b Ab L F a m w N h
 | swap O X=>exact Lm M d b Ab L F a m w N h
 | stack U Z O=>exact Lm M d b Ab L F a m w N h
 | tape U O=>exact Lm M d b Ab L F a m w N h
 | call U Z hl hv=>
  rename_i k s l;obtain ⟨i,hi⟩:=Option.isSome_iff_exists.1 (F.calls.1 U);rcases U with rfl|rfl
  . exact Yh M V b hg hi hl F a m w G N h
  . exact Yi M V b hg hi hl F a m w G N h
 | branch U O X Y hu=>
  rcases U with rfl|rfl
  . exact Yg M V b O X Y hu F a m w G N h
  . exact Z7 M V b O X Y hu F a m w G N h
 | local_ Z O X Y=>exact Zx M V b O X Y F a m w G N h
 | lstack Z O=>exact Wh M V b O F a m w G N h
def S8 (F:c.fuel<=10000) (G:ProcsOk c.g) : ∀d,Wf c d
 | 0=>fun P b t r a m w _ _ h _ _=>absurd (by unfold Au;rfl) h
 | d+1=>Zy F G (S5 (S8 F G d))
def Wk (h:c.fuel<=10000) (F:ProcsOk c.g) (d:Nat):Fb c d:=S5 (S8 h F d)
end
end Bk
namespace Bk
open Go Go.RowKit
def WF (r:Option Nat):Fence:={ Fence.wide with round:=r }
section base
variable {P:Program} {r:Option Nat} {m:Nat} {Q:Exit->Act->wD->Prop}
def wf_calls {f:FuncId} {args:Array Value} {w:wD} {R:Ending->wD->Prop}:CallsIn (WF r) m P f args w R↔Calls P f args w R:=callsIn_wide (n:=m)
def J2 {p:Prop} (h:(WF r).depth.isSome=true):p:=by simp [WF,Fence.wide] at h
def Yj {row:String} {args:Array Value} {w:wD} {R:Value->wD->Prop} (h:Go.Rows P row args w R):RowsIn (WF r) m P row args w R:=fun c cs _=>
 let ⟨v,w',hR,hs⟩:=h c cs
 ⟨v,w',hR,stepsIn_wide.2 hs⟩
def J3 (o:Oper):Bool:=match o.op with
 | .defer _=>false
 | _=>true
def Wl {o:Oper} (h:J3 o=true) : ∀c,o.op≠.defer c:=fun c e=>by simp [J3,e] at h
def YU {o:Oper} {a:Act} {w:wD} {K:Act->wD->Prop} (F:J3 o=true) (h:o.wp P a w K Q):o.wpIn (WF r) m P a w K Q:=by
 refine ⟨fun _ _=>trivial,?_⟩;rw [Oper.semAt_eq _ _ _ (Wl F)];unfold eL at h;generalize (execOp a.eval o).run P w=x at h;cases x with
 | ok v w'=>cases v<;>simp only [Oper.upon] at h<;>simp only [Oper.uponIn]<;>first
  | exact h
  | exact h.elim
  | exact ⟨J2,wf_calls.2 (dY h (fun e w h=>by cases e<;>exact h))⟩
  | exact ⟨J2,Yj h⟩
 | halt v w'=>cases v<;>simp only [Oper.upon] at h<;>simp only [Oper.uponIn]<;>first|exact h|exact h.elim
def OT {ops:Array Oper} (L : ¬LetsOut Q) : ∀(F:List Oper) (a:Act) (w:wD),F.all J3=true->wpList P ops Q F a w->wpListIn (WF r) m P ops Q F a w
 | [],_,_,_,h=>h
 | o::F,a,w,G,h=>by
  simp only [List.all_cons,bZ] at G;unfold wpList at h;unfold wpListIn;by_cases M:Region.wanted o (yielded ops a.tmps)=true
  . rw [AG M] at h ⊢;rcases h with h|h
    . exact Oper.wpIn_mono (fun a w h=>OT L F a w G.2 h) (YU G.1 h)
    . exact absurd h.2 L
  . rw [As M] at h ⊢;exact ⟨fun _ _=>trivial,OT L F _ w G.2 h⟩
def CG {K:Act->wD->Prop} (h : ¬LetsOut Q) : ¬LetsOut (Exit.then K Q):=h
def Cj {i:Nat} (h : ¬LetsOut Q) : ¬LetsOut (Exit.inBlock i Q):=h
end base
def CR (P:Program) (n:Nat) (r:Option Nat) (c:Code) (Q:Exit->Act->wD->Prop) (l:Sl) (w:wD):Prop:= ∀a,Env n l a->c.wpIn (WF r) 0 P Q a w
section code
variable {P:Program} {n:Nat} {r:Option Nat} {Q:Exit->Act->wD->Prop} {l:Sl} {w:wD}
def YV {c:Code} (h:CR P n none c Q l w):CW P n c Q l w:=by unfold CW;exact fun a F=>wpIn_wide.1 (h a F)
def Z8 {c:Code} (h:CW P n c Q l w):CR P n none c Q l w:=by unfold CW at h;exact fun a F=>wpIn_wide.2 (h a F)
def F7 {x y:Code} (h:CR P n r x (Exit.then (y.wpIn (WF r) 0 P Q) Q) l w):CR P n r (.seq x y) Q l w:=fun a F=>wpIn_seq (h a F)
def EN {y:Code} (h:CR P n r y Q l w):QW n (Exit.then (y.wpIn (WF r) 0 P Q) Q) .normal l w:=by unfold QW;exact h
def IF (h:QW n Q .normal l w):CR P n r .skip Q l w:=by unfold QW at h;exact fun a F=>wpIn_skip (h a F)
def Zz (h:QW n Q .ret l w):CR P n r .ret Q l w:=by unfold QW at h;exact fun a F=>wpIn_ret (h a F)
def J4 {i:Nat} {c:Code} (h:CR P n r c (Exit.inBlock i Q) l w):CR P n r (.block i c) Q l w:=fun a F=>wpIn_block (h a F)
def Yk {c:Operand} {x y:Code} {b:Bool} (F:ev l c=some (.bool b)) (G:b=true->CR P n r x Q l w) (L:b=false->CR P n r y Q l w):CR P n r (.cond c x y) Q l w:=
 fun a h=>wpIn_cond_split (h.ev F) (fun e=>G e a h) (fun e=>L e a h)
def Cm {G:Nat} {F:List Oper} (L:F.all J3=true) (M : ¬LetsOut Q) (h:LW P n F.toArray Q F l w):CR P n r (.region G F.toArray false) Q l w:=by unfold LW at h;exact fun a N=>wpIn_region_lit (OT M F a w L (h a N))
end code
section draw
variable {P:Program} {ops:Array Oper} {Q:Exit->Act->wD->Prop} {S:wD->Prop} {K:Nat}
def Hl (P:Program) (ops:Array Oper) (Q:Exit->Act->wD->Prop) (S:wD->Prop) (K:Nat):Nat->Array Bool->Act->wD->Prop
 | 0,listed,a,w=>cZ .any ops listed=[]/\Q .normal a w
 | fuel+1,listed,a,w=>
  (cZ .any ops listed=[]->Q .normal a w) /\
  ∀i∈cZ .any ops listed,(i<K->wpOp P ops Q i (fun a' w'=>S w'/\Hl P ops Q S K fuel (listed.setIfInBounds i true) a' w') a w) /\
   (K<=i->wpOpIn (WF none) 0 P ops Q i (Hl P ops Q S K fuel (listed.setIfInBounds i true)) a w)
def Yl {i:Nat} {a:Act} {w:wD} {G:Act->wD->Prop} (L : ¬LetsOut Q) (M : ∀o,ops[i]? = some o->J3 o=true) (h:wpOp P ops Q i G a w):wpOpIn (WF none) 0 P ops Q i G a w:=by
 unfold wpOp at h;unfold wpOpIn;cases ho:ops[i]? with
 | none=>rw [ho] at h;exact h
 | some o=>
  rw [ho] at h;simp only at h ⊢;by_cases F:Region.wanted o (yielded ops a.tmps)=true
  . rw [AG F] at h ⊢;rcases h with h|h
    . exact YU (M o ho) h
    . exact absurd h.2 L
  . rw [As F] at h ⊢;exact ⟨fun _ _=>trivial,h⟩
def Hm (L : ¬LetsOut Q) (M : ∀(i:Nat) (o:Oper),ops[i]? = some o->J3 o=true) : ∀(F:Nat) (G:Array Bool) (a:Act) (w:wD),Hl P ops Q S K F G a w->wpAnyIn (WF none) 0 P .any ops Q F G a w
 | 0,_,_,_,h=>h
 | F+1,_,_,_,h=>⟨h.1,fun i U=>by
  by_cases V:i<K
  . exact wpOpIn_mono (fun N w' O=>Hm L M F _ N w' O.2) (Yl L (M i) ((h.2 i U).1 V))
  . exact wpOpIn_mono (fun N w' O=>Hm L M F _ N w' O) ((h.2 i U).2 Ab)⟩
def OU {i:Nat} {oi:Oper} {v:Value} (hi:ops[i]? = some oi) (hK:i<K) (ad:EX ops K i) (V : ∀(j:Nat) (o:Oper) cs b,ops[j]? = some o->o.op≠.select cs b)
 (hQ : ∀c a w,Q (.panic c) (a.put oi.dst v) w->Q (.panic c) a w) :
 ∀(G:Nat) (F:Array Bool) (a:Act) (w:wD),DC ops F ->
  (∀j X,ops[j]? = some X->j≠i->F.getD j true=false->(∀e∈X.after,dT .any e=true->e.on≠i)->oi.apart ops X=true) ->
  i∈cZ .any ops F->YieldsIf P ops S oi v a->S w ->
  Hl P ops Q S K G (F.setIfInBounds i true) (a.put oi.dst v) w->Hl P ops Q S K (G+1) F a w:=by
 intro G
 induction G with
 | zero=>
  intro F a w _ _ hr hy hS H;refine ⟨fun h=>(by rw [h] at hr;cases hr),fun j hj=>?_⟩;by_cases L:j=i
  . subst L;exact ⟨fun _=>hy.wpOp hi hS ⟨hS,H⟩,fun h=>by omega⟩
  . have:=ready_mono hj L;rw [H.1] at this;cases this
 | succ G ih=>
  intro F a w aa M hr hy hS H;refine ⟨fun h=>(by rw [h] at hr;cases hr),fun j hj=>?_⟩;by_cases L:j=i
  . subst L;exact ⟨fun _=>hy.wpOp hi hS ⟨hS,H⟩,fun h=>by omega⟩
  . obtain ⟨Y,X,O,Z⟩:=mem_ready.1 hj;have N : ¬F.getD i false=true:=fun hc=>by
     have h0:=(mem_ready.1 hr).1;rcases cO i F.size with h'|h'
     . simp [h'] at h0 hc;rw [h0] at hc;cases hc
     . simp [dX h'] at hc
    have ae:j<K:=by
     rcases cO j K with h|h
     . exact h
     . exact absurd (ad F j X aa h O Z) N
    have h1:=(H.2 j (ready_mono hj L)).1 ae;have ab : ∀e∈X.after,dT .any e=true->e.on≠i:=fun e he hb af=>N (af▸Z e he hb)
    have h2:=wpOp_putIf O (M j X O L Y ab) (fun cs b=>V i oi cs b hi) (fun cs b=>V j X cs b O) hQ hy h1;have U : ∀k ok,ops[k]? = some ok->k≠i->(F.setIfInBounds j true).getD k true=false ->
     (∀e∈ok.after,dT .any e=true->e.on≠i)->oi.apart ops ok=true:=fun k ok hk ag N ah=>by
     refine M k ok hk ag ?_ ah;by_cases ac:j=k
     . subst ac;exact Y
     . rw [getD_set_ne true ac] at N;exact N
    refine ⟨fun _=>wpOp_mono (fun a' w' h3=>⟨h3.2.1,ih (F.setIfInBounds j true) a' w' (aa.set hj) U (ready_mono hr (Ne.symm L)) h3.1 h3.2.1 ?_⟩) h2,fun h=>by omega⟩;rw [Array.setIfInBounds_comm _ _ L];exact h3.2.2
def HM (P:Program) (ops:Array Oper) (Q:Exit->Act->wD->Prop) (S:wD->Prop) (K:Nat):Sc->Act->wD->Prop
 | .done,a,w=>Q .normal a w
 | .pure i r,a,w=> ∃o v,ops.toList[i]? = some o/\YieldsIf P ops S o v a/\HM P ops Q S K r (a.put o.dst v) w
 | .fork i x r,a,w=>i<K/\wpOp P ops Q i (fun a' w'=>S w'/\HM P ops Q S K x a' w') a w/\HM P ops Q S K r a w
 | .none,_,_=>True
 | .tail,a,w=>wpListIn (WF none) 0 P ops Q (ops.toList.drop K) a w
def Ji : ∀(f k:Nat) (F:Array Bool) (a:Act) (w:wD),K<=k->f+k=ops.size->Fv ops f k F=true->wpListIn (WF none) 0 P ops Q (ops.toList.drop k) a w->Hl P ops Q S K f F a w
 | 0,k,F,a,w,O,U,G,h=>by
  have:ops.toList.drop k=[]:=List.drop_eq_nil_of_le (by simp;omega);rw [this] at h;exact ⟨by simpa [Fv] using G,h⟩
 | f+1,k,F,a,w,O,U,G,h=>by
  simp only [Fv,bZ,beq_iff_eq] at G;have L:k<ops.toList.length:=by simp;omega
  rw [dH L] at h;refine ⟨fun e=>absurd (G.1.symm.trans e) AR,fun i M=>?_⟩;rw [G.1] at M;simp only [List.mem_singleton] at M;subst M;refine ⟨fun h=>by omega,fun _=>?_⟩;have V:ops[i]? = some ops.toList[i]:=by simp
  unfold wpListIn at h;unfold wpOpIn;rw [V];simp only;split
  . rename_i N;rw [AG N] at h;exact Oper.wpIn_mono (fun X w' Y=>Ji f (i+1) _ X w' Ab Ab G.2 Y) h
  . rename_i N;rw [As N] at h;exact ⟨h.1,Ji f (i+1) _ _ w Ab Ab G.2 h.2⟩
def HM.any (Y:Region.noSelect ops=true) (M : ∀i,i<K->EX ops K i) (Z:D3 Q) :
 ∀(s:Sc) (f:Nat) (F:Array Bool) (a:Act) (w:wD),DC ops F->S w->HM P ops Q S K s a w ->
  (Sc.ok ops K true s f F=true->Hl P ops Q S K f F a w) /\
  (Sc.ok ops K false s f F=true -> ∀i∈s.alts,∀f',f=f'+1->i<K/\wpOp P ops Q i (fun X w'=>S w'/\Hl P ops Q S K f' (F.setIfInBounds i true) X w') a w)
 | .done,f,F,a,w,L,N,h=>by
  refine ⟨fun G=>?_,fun G=>by simp [Sc.ok] at G⟩;have U:cZ .any ops F=[]:=by simpa [Sc.ok] using G
  cases f with
  | zero=>exact ⟨U,h⟩
  | succ f=>exact ⟨fun _=>h,by rw [U];simp⟩
 | .none,f,F,a,w,L,N,h=>⟨fun G=>by simp [Sc.ok] at G,fun G=>by simp [Sc.alts]⟩
 | .tail,f,F,a,w,L,N,h=>⟨fun G=>by
  simp only [Sc.ok,bZ] at G;exact Ji f K F a w (cH _) (dO G.1) G.2 h,fun G=>by simp [Sc.ok] at G⟩
 | .pure i r,0,F,a,w,L,N,h=>⟨fun G=>by simp [Sc.ok] at G,fun G=>by simp [Sc.ok] at G⟩
 | .pure i r,f+1,F,a,w,L,N,h=>⟨fun G=>by
  simp only [Sc.ok,bZ] at G;obtain ⟨o,v,ho,hy,U⟩:=h;have hi:ops[i]? = some o:=by simpa using ho
  have O:i∈cZ .any ops F:=by simpa using G.1.1.2
  exact OU hi (dE G.1.1.1) (M i (dE G.1.1.1)) (Region.noSelect_spec Y) (fun c a w=>Z o.dst v c a w) f F a w L (Region.free_spec hi G.1.2) O hy N
   ((HM.any Y M Z r f _ _ w (L.set O) N U).1 G.2),fun G=>by simp [Sc.ok] at G⟩
 | .fork i x r,0,F,a,w,L,N,h=>⟨fun G=>by simp [Sc.ok] at G,fun G=>by simp [Sc.ok] at G⟩
 | .fork i x r,f+1,F,a,w,L,N,h=>by
  have key:i∈cZ .any ops F->Sc.ok ops K true x f (F.setIfInBounds i true)=true->wpOp P ops Q i (fun X w'=>S w'/\Hl P ops Q S K f (F.setIfInBounds i true) X w') a w:=fun O G=>
   wpOp_mono (fun X w' h'=>⟨h'.1,(HM.any Y M Z x f _ X w' (L.set O) h'.1 h'.2).1 G⟩) h.2.1
  have U:=HM.any Y M Z r (f+1) F a w L N h.2.2;refine ⟨fun G=>?_,fun G j V f' hf=>?_⟩
  . simp only [Sc.ok,bZ] at G;obtain ⟨⟨⟨h1,h4⟩,h2⟩,h3⟩:=G;refine ⟨fun e=>by rw [e] at h4;simp at h4,fun j V=>?_⟩;have:=List.all_eq_true.1 h1 j V;simp only [List.contains_eq_mem,dQ,decide_eq_true_eq] at this;rcases this with rfl|aa
    . exact ⟨fun _=>key V h2,fun hK=>absurd h.1 Ab⟩
    . obtain ⟨k1,k2⟩:=U.2 h3 j aa f rfl;exact ⟨fun _=>k2,fun hK=>by omega⟩
  . simp only [Sc.ok,bZ] at G;obtain rfl:f=f':=by omega
    simp only [Sc.alts,dQ] at V;rcases V with rfl|V
    . exact ⟨h.1,key (by simpa using G.1.1) G.1.2⟩
    . exact U.2 G.2 j V f rfl
end draw
def MW (P:Program) (n:Nat) (ops:Array Oper) (Q:Exit->Act->wD->Prop) (S:wD->Prop) (K:Nat) (s:Sc) (l:Sl) (w:wD):Prop:= ∀a,Env n l a->HM P ops Q S K s a w
def LI (P:Program) (n:Nat) (ops:Array Oper) (Q:Exit->Act->wD->Prop) (os:List Oper) (l:Sl) (w:wD):Prop:= ∀a,Env n l a->wpListIn (WF none) 0 P ops Q os a w
section draws
variable {P:Program} {n:Nat} {ops:Array Oper} {Q:Exit->Act->wD->Prop} {S:wD->Prop} {K:Nat} {l:Sl} {w:wD}
 {d i:Nat} {ty:TypeId} {pos:String} {after:Array Edge} {r x:Sc} {rest:List Oper}
def Wm {U:Nat} {F:List Oper} (S:wD->Prop) (K:Nat) (s:Sc) (V:P.follows .mixedOrders=true) (G:(Region.noSelect F.toArray&&Kk F.toArray K&&cV K F.length&&F.all J3&&Sc.ok F.toArray K true s F.length (eO F.length false))=true) (X:D3 Q) (Y : ¬LetsOut Q)
 (h : ∀w1,Ext w w1->w1.heap=w.heap->S w1/\MW P n F.toArray Q S K s l w1):CW P n (.region U F.toArray true) Q l w:=by
 refine YV fun a Z=>?_
 simp only [bZ] at G;obtain ⟨h1,h2⟩:=h w.drew (eU w).drew rfl;have L : ∀i,i<K->EX F.toArray K i:=Fe G.1.1.1.2 (by have:=dE G.1.1.2;simp;omega);have M:DC F.toArray (eO F.length false):=fun k o _ O=>by
  exfalso;rcases cO k F.length with N|N
  . simp [N] at O
  . simp [dX,N] at O
 refine wpIn_region_any V (Hm (S:=S) (K:=K) Y (fun i o ho=>List.all_eq_true.1 G.1.2 o (dL (by simpa using ho))) _ _ _ _ ?_);have:=(HM.any G.1.1.1.1 L X s F.length (eO F.length false) a w.drew M h1 (h2 a Z)).1 G.2;simpa using this
def Ym {F:List Oper} (G:Lx K ops.toList=some F) (h:LI P n ops Q F l w):MW P n ops Q S K .tail l w:=by
 unfold LI at h;intro a L;show wpListIn _ _ P ops Q (ops.toList.drop K) a w;rw [GY G];exact h a L
def S9:MW P n ops Q S K .none l w:=fun _ _=>trivial
def OV {op:Op} {v:Value} (G:ops.toList[i]? = some ⟨some d,op,ty,pos,after,none⟩) (h:BB P n l S op ty v) (L:cV d n=true) (k:MW P n ops Q S K r ((d,v)::l) w) :
 MW P n ops Q S K (.pure i r) l w:=by
 unfold BB at h;exact fun a F=>⟨_,v,G,bW ⟨rfl,fun w M=>h a w _ _ _ _ F M⟩,k _ (F.put L v)⟩
def Ta {op:Op} {F:Option Value->wD->Prop} (U:ops.toList[i]? = some ⟨some d,op,ty,pos,after,none⟩) (G:cV i K=true) (N:B5 P n l op ty w F) (V:cV d n=true)
 (k : ∀v w1,F (some v) w1->S w1/\MW P n ops Q S K x ((d,v)::l) w1) (X : ∀w1,¬F none w1) (Y:MW P n ops Q S K r l w):MW P n ops Q S K (.fork i x r) l w:=fun a L=>by
 unfold B5 at N;refine ⟨dE G,?_,Y a L⟩;have M:ops[i]? = some ⟨some d,op,ty,pos,after,none⟩:=by simpa using U
 unfold wpOp;rw [M];simp only;rw [AG (Bo rfl)];left;exact N a _ _ _ _ _ _ L (fun v w1 O=>⟨(k v w1 O).1,(k v w1 O).2 _ (L.put V v)⟩) (fun w1 h=>absurd h (X w1))
def Z9 {F:List Oper} (G : ¬LetsOut Q) (L:F.all J3=true) (h:LW P n ops Q F l w):LI P n ops Q F l w:=by unfold LW at h;exact fun a M=>OT G F a w L (h a M)
def Wn {y:Nat} {x:Operand} {xs:List Operand} {tys:Array TypeId} {vs:lV} {R:Ending->wD->Prop} (O:ev l x=some (.func (.yield y) #[] #[])) (M:evs l xs=some vs) (Y:YieldAt (WF none) 0 P y vs.toArray w R) (U : ∀e w1,R e w1 -> ∃v,e = .returned v) (V:cV d n=true)
 (k : ∀v w1,R (.returned v) w1->LI P n ops Q rest ((d,v)::l) w1):LI P n ops Q (⟨some d,.call ⟨.value x,xs.toArray,tys⟩,ty,pos,after,none⟩::rest) l w:=fun a N=>by
 obtain ⟨fn,tmps,F,L,X,Z⟩:=Y;have G:xs.map a.eval=vs:=N.evs M;have e:(execOp a.eval ⟨some d,.call ⟨.value x,xs.toArray,tys⟩,ty,pos,after,none⟩).run P w = .ok (.round y fn tmps F L) w:=by
  simp only [execOp,resolve,N.ev O,Deferred.ofValue,cU,dC,cG,invoke];simpa [<-G] using X
 unfold wpListIn;rw [AG (Bo rfl)];refine ⟨fun _ _=>trivial,?_⟩;rw [Oper.semAt_eq _ _ _ (fun c e=>by cases e),e];refine ⟨J2,RoundIn.mono Z fun e w1 h=>?_⟩;obtain ⟨v,rfl⟩:=U e w1 h;exact k v w1 h _ (N.put V v)
end draws
def Nb {α:Type} (c:Nat) (J:(nP)->List α->wD->Prop):Prop:=
 ∀A A' xs W W',J A xs W->Fr A W W'->(∀k,A k->c<=k)->(∀k,A' k->c<=k)->(∀k,k<W.heap.size->A' k->A k)->J A' xs W'
def Keeps (S:nP) (W W':wD):Prop:=Fr (fun k=> ¬S k) W W'
def Keeps.size {S:nP} {W F:wD} (h:Keeps S W F):W.heap.size<=F.heap.size:=Fr.size h
def Keeps.block {S:nP} {W F:wD} (h:Keeps S W F) (k:Nat) (G:S k) (L:k<W.heap.size):F.heap[k]? = W.heap[k]? := Fr.block h k L (fun e=>e G)
def Keeps.trans {S:nP} {A B C:wD} (h:Keeps S A B) (k:Keeps S B C):Keeps S A C:=Fr.trans h k
def Keeps.of_fr {S T:nP} {A B:wD} (h:Fr T A B) (F : ∀k,S k -> ¬T k):Keeps S A B:=⟨h.os,h.tape,h.output,h.size,fun k G L=>h.block k G (F k (Classical.not_not.1 L))⟩
def Keeps.of_ext {S:nP} {A B:wD} (h:Ext A B):Keeps S A B:=⟨h.os,h.tape,h.output,h.size,fun _ F _=>h.block F⟩
def Keeps.less {S T:nP} {A B:wD} (h:Keeps S A B) (F : ∀k,T k->S k):Keeps T A B:=⟨Fr.os h,Fr.tape h,Fr.output h,Fr.size h,fun k G L=>Fr.block h k G (fun e=>L (fun t=>e (F k t)))⟩
def OW {α:Type} (P:Program) (gf:Nat) (lb:lV) (rep:Nat->wD->lV->α->Prop) (Rt:nP) (S:List α) (w:wD):Prop:=
 ∀(y:Nat) (J Jx:(nP)->List α->wD->Prop) (W:wD),Keeps Rt w W->Nb W.heap.size J->Nb W.heap.size Jx ->
  (∀A pre x vs W1,(∀k,A k->W.heap.size<=k/\k<W1.heap.size)->J A pre W1->rep W.heap.size W1 vs x->(pre++[x]) <+: S ->
   YieldAt (WF none) 0 P y vs.toArray W1 fun e W2=>Keeps (fun k=>A k\/Rt k) W1 W2/\((e = .returned (.bool true)/\J A (pre++[x]) W2)\/(e = .returned (.bool false)/\Jx A (pre++[x]) W2))) ->
  J (fun _=>False) [] W ->
  Calls P gf (.func (.yield y) #[] #[]::lb).toArray W fun e W'=>(∃v,e = .returned v) /\ ∃A,(∀k,A k->W.heap.size<=k)/\(J A S W' \/ ∃pre,pre <+: S/\Jx A pre W')
def UA {W:wD} {r:Nat} {o F:Obj} (h:W.heap[r]? = some o):Fr (fun k=>k=r) W (W.putObj r F):=
 ⟨rfl,rfl,rfl,AR,fun k _ G=>World.putObj_heap_other G⟩
def Ik {α:Type} (Kp:nP) (J Jx:(nP)->List α->wD->Prop) (A:nP) (xs:List α) (W:wD):Exit->Act->wD->Prop
 | .normal,_,W'=>Keeps Kp W W'/\J A xs W'
 | .ret,_,W'=>Keeps Kp W W'/\Jx A xs W'
 | _,_,_=>False
def DE {α:Type} {Kp:nP} {J Jx:(nP)->List α->wD->Prop} {A:nP} {xs:List α} {W:wD} : ¬LetsOut (Ik Kp J Jx A xs W):=fun ⟨_,_,h⟩=>h
def QJ {P:Program} {fn:Func} {R:Ending->wD->Prop} (h : ∀w,¬R .outgrown w) : ¬LetsOut (bodyPost P fn R):=fun ⟨_,w,e⟩=>h w e
def R8 {α:Type} {P:Program} {g:Operand} {ps:Array Tmp} {assign body:Code} {Q:Exit->Act->wD->Prop} {a:Act} {w:wD} {gf:Nat} {lb:lV} {rep:Nat->wD->lV->α->Prop} {Rt:nP} {S:List α}
 (hg:a.eval g = .func (.func gf) #[] lb.toArray) (eg:CO P gf=true) (hit:OW P gf lb rep Rt S w) (hps : ∀c W vs x,rep c W vs x->vs.length=ps.size) (hRt : ∀k,Rt k->k<w.heap.size)
 (J Jx:(nP)->List α->wD->Prop) (hJ:Nb w.heap.size J) (hJx:Nb w.heap.size Jx) (h0:J (fun _=>False) [] w)
 (hround : ∀r A pre x vs W,(∀k,A k->w.heap.size<=k/\k<W.heap.size)->A (w.heap.size+1)->J A pre W->rep (w.heap.size+2) W vs x->(pre++[x]) <+: S ->
  assign.wpIn (WF (some r)) 0 P (Exit.then (fun a₁ W₁=>Keeps (fun k=>A k\/Rt k) W W₁ /\ ∀W₂,Fr (fun k=>k=w.heap.size+1) W₁ W₂->body.wpIn (WF (some r)) 0 P (Ik (fun k=>A k\/Rt k) J Jx A (pre++[x]) W₂) a₁ W₂) (fun _ _ _=>False))
   { tmps:=(ps.zip vs.toArray).foldl (fun t (p,v)=>t.setIfInBounds p v) a.tmps,defers:=[] } W)
 (hdone : ∀A W,(∀k,A k->w.heap.size<=k)->J A S W->A w.heap.size->W.heap[w.heap.size]? = some (.deferred (some []))->Q .normal { a with defers:={ target:=.collected w.heap.size,args:= #[] }::a.defers } W)
 (hstop : ∀A pre W,(∀k,A k->w.heap.size<=k)->pre <+: S->Jx A pre W->A w.heap.size->W.heap[w.heap.size]? = some (.deferred (some []))->Q .ret { a with defers:={ target:=.collected w.heap.size,args:= #[] }::a.defers } W) :
 (Code.rangeFunc g ps assign body).wpIn (WF none) 0 P Q a w:=by
 refine wpIn_rangeFunc ?_;intro fn hfn
 show ∃l mark w₁ d w₁' f args w₂,(Instr.enterLoop fn a.tmps ps assign body none).run P w = .ok (l,mark) w₁/\_
 obtain ⟨n,hn⟩ : ∃n,n=w.heap.size:=⟨_,rfl⟩;rw [<-hn] at hJ hJx hround hdone hstop
 obtain ⟨rec,hrec⟩ : ∃rec:LoopState->Option Code->Loop,rec=fun st pe=>{ state:=st,pending:=pe,fn,tmps:=a.tmps,params:=ps,assign,body,defers:=n }:=⟨_,rfl⟩
 obtain ⟨W1,hW1⟩ : ∃W1,(w.alloc (.deferred (some []))).alloc (.loop (rec .ready none))=W1:=⟨_,rfl⟩
 have hL1:W1.heap[n+1]? = some (.loop (rec .ready none)):=by
  rw [<-hW1,hn];have:=World.alloc_heap_new (w.alloc (.deferred (some []))) (.loop (rec .ready none));rwa [World.size_alloc] at this
 have hK1:W1.heap[n]? = some (.deferred (some [])):=by
  rw [<-hW1,hn];exact (Below.heap_alloc _ _ _ (by simp)).trans (World.alloc_heap_new w _)
 have hX1:Ext w W1:=by rw [<-hW1];exact (((eU w).alloc _).alloc _)
 have hS1:W1.heap.size=n+2:=by rw [<-hW1];simp [hn]
 let U:(nP)->nP:=fun A k=>A k\/k=n\/k=n+1
 have hU : ∀ {A:nP},(∀k,A k->n+2<=k) -> ∀k,U A k->n<=k:=fun h k hk=>by
  rcases hk with hk|hk|hk
  . have:=h k hk;omega
  . omega
  . omega
 have hput : ∀ {A:nP} {G:(nP)->List α->wD->Prop} {xs:List α} {W:wD} {o o':Obj} {k:Nat},Nb n G->(∀k,A k->n+2<=k)->k=n+1->G (U A) xs W->W.heap[k]? = some o->G (U A) xs (W.putObj k o'):=
  fun hG hA hk h ho=>hG _ _ _ _ _ h ⟨rfl,rfl,rfl,by simp,fun i _ hi=>World.putObj_heap_other (fun e=>hi (bX (bX (e.trans hk))))⟩ (hU hA) (hU hA) (fun _ _ h=>h)
 have hstab : ∀ {G:(nP)->List α->wD->Prop} {st:LoopState} {pe:Option Code},Nb n G->Nb (n+2) (fun A pre W=>G (U A) pre W/\W.heap[n+1]? = some (.loop (rec st pe))/\W.heap[n]? = some (.deferred (some []))):=
  fun hG A A' xs W W' h hf hA hA' hs=>by
   have hlt:n+1<W.heap.size:=(Array.getElem?_eq_some_iff.1 h.2.1).1;refine ⟨hG _ _ _ _ _ h.1 ⟨hf.os,hf.tape,hf.output,hf.size,fun k hk hU=>hf.block k hk (fun e=>hU (bW e))⟩ (hU hA) (hU hA') (fun k hk h=>?_),(hf.block _ hlt (fun e=>by have:=hA _ e;omega)).trans h.2.1,(hf.block _ (by omega) (fun e=>by have:=hA _ e;omega)).trans h.2.2⟩
   rcases h with h|h
   . exact bW (hs k hk h)
   . exact bX h
 refine ⟨n+1,[{ target:=.collected n,args:= #[] }],W1,{ target:=.fn (.func gf) lb.toArray,args:= #[.func (.yield (n+1)) #[] #[]] },W1,gf,
  (.func (.yield (n+1)) #[] #[]::lb).toArray,W1,?_,?_,fun _ _=>trivial,?_,J2,?_⟩
 . rw [<-hW1,hrec,hn];exact run_enterLoop_outer _ _ _ _ _
 . simp only [resolve,hg]
   simp [go_sem]
 . simp only [invoke,cU,D2 eg,cG,dC]
   simp
 . refine wf_calls.2 (dY (hit (n+1) (fun A pre W=>J (U A) pre W/\W.heap[n+1]? = some (.loop (rec .ready none))/\W.heap[n]? = some (.deferred (some [])))
    (fun A pre W=>Jx (U A) pre W/\W.heap[n+1]? = some (.loop (rec .done (some .ret)))/\W.heap[n]? = some (.deferred (some []))) W1 (Keeps.of_ext hX1) (by rw [hS1];exact hstab hJ) (by rw [hS1];exact hstab hJx) ?_ ⟨?_,hL1,hK1⟩) ?_)
   ·
    rw [hS1];rintro A pre x vs W hA ⟨hi,hl,hk⟩ hrep hpre;have hlt:n+1<W.heap.size:=(Array.getElem?_eq_some_iff.1 hl).1;have hy:=run_yield (P:=P) (args:=vs.toArray) hl (by rw [hrec];simpa using hps _ W vs x hrep);rw [hrec] at hy
    have hUA : ∀k,U A k->n<=k/\k<W.heap.size:=fun k hk=>by
     rcases hk with hk|hk|hk
     . have:=hA k hk;omega
     . omega
     . omega
    refine ⟨fn,_,assign,body,hy,roundIn_of_wpIn (F:=WF none) hfn (wpIn_mono (hround (n+1) (U A) pre x vs W hUA (bX (bX rfl)) hi hrep hpre) ?_)⟩;rintro e a₁ V₁ hp
    cases e with
    | normal=>
     obtain ⟨hk1,hb⟩:=hp;have hl1:V₁.heap[n+1]? = some (.loop (rec .ready none)):=(hk1.block _ (bW (bX (bX rfl))) hlt).trans hl;have hk1':V₁.heap[n]? = some (.deferred (some [])):=(hk1.block _ (bW (bX (bW rfl))) (by omega)).trans hk;refine ⟨_,run_beginRound hl1 (by rw [hrec]),wpIn_mono (hb _ (UA hl1)) ?_⟩;have hlt1:n+1<V₁.heap.size:=(Array.getElem?_eq_some_iff.1 hl1).1;obtain ⟨V₂,hV₂⟩ : ∃V₂,V₁.putObj (n+1) (.loop { rec .ready none with state:=.busy })=V₂:=⟨_,rfl⟩;rw [hV₂]
     have hl2:V₂.heap[n+1]? = some (.loop { rec .ready none with state:=.busy }):=by rw [<-hV₂];exact World.putObj_heap_same hlt1
     have hk2:V₂.heap[n]? = some (.deferred (some [])):=by rw [<-hV₂];exact (World.putObj_heap_other (by omega)).trans hk1'
     have hs2:V₂.heap.size=V₁.heap.size:=by rw [<-hV₂];simp
     have hkeep : ∀ {V₃:wD} {o:Obj},Keeps (fun k=>U A k\/Rt k) V₂ V₃->Keeps (fun k=>A k\/Rt k) W (V₃.putObj (n+1) o):=fun hk3=>⟨(Fr.os hk3).trans ((show V₂.os=V₁.os by rw [<-hV₂];rfl).trans (Fr.os hk1)),(Fr.tape hk3).trans ((show V₂.tape=V₁.tape by rw [<-hV₂];rfl).trans (Fr.tape hk1)),(Fr.output hk3).trans ((show V₂.output=V₁.output by rw [<-hV₂];rfl).trans (Fr.output hk1)),by have:=hk1.size;have:=hk3.size;simp;omega,fun k hlt hkk=>by
      have hk:=Classical.not_not.1 hkk
      have hne:k≠n+1:=fun e=>by
       subst e
       rcases hk with hk|hk
       . have:=hA _ hk;omega
       . have:=hRt _ hk;omega
      have hk':U A k\/Rt k:=hk.imp bW id;rw [World.putObj_heap_other hne,hk3.block k hk' (by have:=hk1.size;omega),<-hV₂,World.putObj_heap_other hne]
      exact hk1.block k hk' hlt⟩
     have fin : ∀(jump:Option Code) (V₃:wD),Keeps (fun k=>U A k\/Rt k) V₂ V₃ ->
      (Instr.endRound (n+1) jump).run P V₃ = .ok (.bool jump.isNone) (V₃.putObj (n+1) (.loop (rec (if jump.isNone then .ready else .done) jump))) /\
      V₃.heap[n+1]? = some (.loop { rec .ready none with state:=.busy }) /\
      (V₃.putObj (n+1) (.loop (rec (if jump.isNone then .ready else .done) jump))).heap[n+1]? = some (.loop (rec (if jump.isNone then .ready else .done) jump)) /\
      (V₃.putObj (n+1) (.loop (rec (if jump.isNone then .ready else .done) jump))).heap[n]? = some (.deferred (some [])):=fun jump V₃ hk3=>by
      have hl3:V₃.heap[n+1]? = some (.loop { rec .ready none with state:=.busy }):=(hk3.block _ (bW (bX (bX rfl))) (by omega)).trans hl2;have:=run_endRound (P:=P) jump hl3;rw [hrec] at this ⊢
      exact ⟨this,by rw [hrec] at hl3;exact hl3,World.putObj_heap_same (Array.getElem?_eq_some_iff.1 hl3).1,(World.putObj_heap_other (by omega)).trans ((hk3.block _ (bW (bX (bW rfl))) (by omega)).trans hk2)⟩
     rintro e a₃ V₃ hp
     cases e with
     | normal=>
      obtain ⟨hk3,hi3⟩:=hp;obtain ⟨hr,hl3,hl4,hk4⟩:=fin none V₃ hk3
      exact ⟨_,_,hr,hkeep hk3,.inl ⟨rfl,hput hJ (fun k hk=>(hA k hk).1) rfl hi3 hl3,hl4,hk4⟩⟩
     | ret=>
      obtain ⟨hk3,hi3⟩:=hp;obtain ⟨hr,hl3,hl4,hk4⟩:=fin (some .ret) V₃ hk3
      exact ⟨_,_,hr,hkeep hk3,.inr ⟨rfl,hput hJx (fun k hk=>(hA k hk).1) rfl hi3 hl3,hl4,hk4⟩⟩
     | exit id=>exact hp.elim
     | goto t=>exact hp.elim
     | panic ch=>exact hp.elim
     | outgrown=>exact hp.elim
    | exit id=>exact hp.elim
    | goto t=>exact hp.elim
    | ret=>exact hp.elim
    | panic ch=>exact hp.elim
    | outgrown=>exact hp.elim
   . refine hJ _ _ _ _ _ h0 ⟨hX1.os,hX1.tape,hX1.output,hX1.size,fun k hk _=>hX1.block hk⟩ (fun _ h=>h.elim) (hU fun _ h=>h.elim) (fun k hk h=>?_)
     rcases h with h|h|h
     . exact h
     . omega
     . omega
   ·
    rw [hS1];rintro e W2 ⟨⟨v,rfl⟩,A,hA,(⟨hi,hl,hk⟩|⟨pre,hpre,hi,hl,hk⟩)⟩
    . exact ⟨none,_,by have:=run_endLoop (P:=P) hl (by rw [hrec];simp);rw [hrec] at this;exact this,hdone (U A) _ (hU hA) (hput hJ hA rfl hi hl) (bX (bW rfl)) ((World.putObj_heap_other (by omega)).trans hk)⟩
    . exact ⟨some .ret,_,by have:=run_endLoop (P:=P) hl (by rw [hrec];simp);rw [hrec] at this;exact this,wpIn_ret (hstop (U A) pre _ (hU hA) hpre (hput hJx hA rfl hi hl) (bX (bW rfl)) ((World.putObj_heap_other (by omega)).trans hk))⟩
def EnvD (D:List Deferred) (n:Nat) (l:Sl) (a:Act):Prop:=Env n l { a with defers:=[] }/\a.defers=D
def ZP (P:Program) (D:List Deferred) (n:Nat) (c:Code) (Q:Exit->Act->wD->Prop) (l:Sl) (w:wD):Prop:= ∀a,EnvD D n l a->c.wp P Q a w
def U6 (P:Program) (D:List Deferred) (n:Nat) (ops:Array Oper) (Q:Exit->Act->wD->Prop) (os:List Oper) (l:Sl) (w:wD):Prop:= ∀a,EnvD D n l a->wpList P ops Q os a w
def Nc (D:List Deferred) (n:Nat) (Q:Exit->Act->wD->Prop) (e:Exit) (l:Sl) (w:wD):Prop:= ∀a,EnvD D n l a->Q e a w
def EnvD.ev {D:List Deferred} {n:Nat} {l:Sl} {a:Act} (h:EnvD D n l a) {x:Operand} {v:Value} (F:ev l x=some v):a.eval x=v:=h.1.ev F
def EnvD.put {D:List Deferred} {n:Nat} {l:Sl} {a:Act} (h:EnvD D n l a) {d:Nat} (F:cV d n=true) (v:Value):EnvD D n ((d,v)::l) (a.put (some d) v):=⟨h.1.put F v,h.2⟩
section code
variable {P:Program} {D:List Deferred} {n:Nat} {Q:Exit->Act->wD->Prop} {l:Sl} {w:wD} {ops:Array Oper} {rest:List Oper} {d:Nat} {ty:TypeId} {pos:String} {after:Array Edge}
def Lo {x y:Code} (h:ZP P D n x (Exit.then (y.wp P Q) Q) l w):ZP P D n (.seq x y) Q l w:=fun a F=>wp_seq (h a F)
def F8 {y:Code} (h:ZP P D n y Q l w):Nc D n (Exit.then (y.wp P Q) Q) .normal l w:=h
def Hn {G:Nat} {F:List Oper} (h:U6 P D n F.toArray Q F l w):ZP P D n (.region G F.toArray false) Q l w:=fun a L=>wp_region_lit (h a L)
def OX (h:Nc D n Q .ret l w):ZP P D n .ret Q l w:=fun a F=>wp_ret (h a F)
def J6 (h:Nc D n Q .normal l w):U6 P D n ops Q [] l w:=h
def Mt {op:Op} {v:Value} (h:BB P n l (· = w) op ty v) (G:cV d n=true) (k:U6 P D n ops Q rest ((d,v)::l) w):U6 P D n ops Q (⟨some d,op,ty,pos,after,none⟩::rest) l w:=fun a F=>by
 unfold wpList;rw [AG (Bo rfl)];left;have e:(execOp a.eval ⟨some d,op,ty,pos,after,none⟩).run P w = .ok (.value v) w:=by
  unfold BB at h;have:=h { a with defers:=[] } w (some d) pos after none F.1 rfl;exact this
 unfold eL;rw [e];exact k _ (F.put G v)
def NT {tab:Tab} {x y:Operand} {t b:Nat} {s:Sk} {v u:Value} (T:TabOk P tab) (O:Az tab t=some (s,1)) (U:ev l x=some (.pointer (some ⟨b,0,none⟩))) (V:ev l y=some v) (L:v.cells = #[v]) (X:fP v=true) (Y:Blk w b [u])
 (k : ∀w1,Blk w1 b [v]->Fr (· = b) w w1->U6 P D n ops Q rest l w1):U6 P D n ops Q (⟨none,.store t x y,ty,pos,after,none⟩::rest) l w:=fun a h=>by
 obtain ⟨w1,M,N⟩:=FL (P:=P) [v] w b 0 0 [u] Y AR (by simp [X]);have e:(execOp a.eval ⟨none,.store t x y,ty,pos,after,none⟩).run P w = .ok .skip w1:=by
  have F:v.cells.toList=[v]:=by rw [L]
  have G:v.cells.size=1:=by rw [L];rfl
  simp only [execOp,h.ev U,h.ev V,Instr.storeAt,Instr.sureAddr,cU,dC,cG,storeVar,Ck (T _ _ _ O),G,F,M];simp only [ne_eq,not_true,if_false,cU,dC,cG,M]
 unfold wpList;rw [AG (Bo rfl)];left;unfold eL;rw [e];exact k w1 N.blk N.fr _ h
end code
def NU {P:Program} {f:FuncId} {fn:Func} {c:Code} {args:lV} {n:Nat} {w:wD} {R:Ending->wD->Prop}
 (L:P.funcs[f]? = some fn) (V:fn.ntmps=n) (M:fn.body=some c) (N:dW args.length n=true) (h:CW P n c (bodyPostM (WF none) 0 P fn R) (GV 0 args) w):Calls P f args.toArray w R:=by
 refine wf_calls.1 (callsIn_of_wp_marks (F:=WF none) (n:=0) L M trivial (Z8 h _ ?_));have O:args.length<=n:=by simpa using N
 refine ⟨by simp;omega,rfl,fun d v U=>?_⟩;obtain ⟨-,G⟩:=GB d v args 0 U;simp only [Nat.sub_zero] at G;have:d<args.length:=by
  rcases cO d args.length with h|h
  . exact h
  . rw [cI h] at G;cases G
 rw [bT this] at G;simp only [cE] at G;simp [Array.getElem?_append,this,G]
def OY (b:Nat):List Deferred:=[{ target:=.collected b,args:= #[] }]
def QK {P:Program} {fn:Func} {tab:Tab} {t ty sz b:Nat} {s:Sk} {v:Value} {tmps:Array Value} {w:wD} (h:fn.results = #[.cell t ty]) (T:TabOk P tab) (G:Az tab ty=some (s,sz)) (L:s.agg=false) (F:tmps.getD t undef = .pointer (some ⟨b,0,none⟩)) (M:w.cell? ⟨b,0,none⟩=some v):(results fn tmps).run P w = .ok v w:=by
 have e:(loadVar ty ⟨b,0,none⟩).run P w = .ok v w:=by
  simp only [cU,dC,cG,loadVar,DG (T _ _ _ G),L];simp [load,Sem.run,M]
 simp only [Array.getD_eq_getD_getElem?] at F;simp [results,h,F,e,asAddr]
def Kz {w:wD} {m:Nat} {o:Obj} (F:Obj) (h:w.heap[m]? = some o):Fr (· = m) w (w.putObj m F):=⟨rfl,rfl,rfl,AR,fun k _ G=>World.putObj_heap_other G⟩
def Wo {P:Program} {fn:Func} {R:Ending->wD->Prop} {n m t:Nat} {l:Sl} {w:wD} {v:Value} (F:w.heap[m]? = some (.deferred (some []))) (h:fn.results = #[.tmp t]) (L:look l t=some v) (M : ∀w',Fr (· = m) w w'->R (.returned v) w'):Nc (OY m) n (bodyPostM (WF none) 0 P fn R) .ret l w:=fun a G=>by
 show LeavesInM _ _ _ _ _ _ a.defers _ _;rw [G.2];refine ⟨AR,.inl ⟨_,_,rfl,run_takeDeferred F,_,results_tmp h _ _ _,?_⟩⟩;rw [show a.tmps.getD t undef=v from G.1.has t v L];exact M _ (Kz _ F)
def QL {P:Program} {fn:Func} {R:Ending->wD->Prop} {n m t ty sz b:Nat} {s:Sk} {tab:Tab} {l:Sl} {w:wD} {v:Value} (G:w.heap[m]? = some (.deferred (some []))) (h:fn.results = #[.cell t ty]) (T:TabOk P tab) (N:Az tab ty=some (s,sz)) (O:s.agg=false) (U:look l t=some (.pointer (some ⟨b,0,none⟩))) (F:Blk w b [v]) (V : ∀w',Fr (· = m) w w'->R (.returned v) w'):Nc (OY m) n (bodyPostM (WF none) 0 P fn R) .ret l w:=fun a M=>by
 show LeavesInM _ _ _ _ _ _ a.defers _ _;rw [M.2];have L:b≠m:=fun e=>by
  obtain ⟨ty,F⟩:=F;rw [e,G] at F;cases F
 exact ⟨AR,.inl ⟨_,_,rfl,run_takeDeferred G,_,QK h T N O (M.1.has t _ U) (fD (F.fr (Kz _ G) L) rfl),V _ (Kz _ G)⟩⟩
def NV (P:Program) (r:Option Nat) (Kp:nP) (m:Nat) (body:Code) (Q:wD->Exit->Act->wD->Prop) (W:wD):Act->wD->Prop:=fun a₁ W₁=>Keeps Kp W W₁ /\ ∀W₂,Fr (· = m) W₁ W₂->body.wpIn (WF r) 0 P (Q W₂) a₁ W₂
def NW {P:Program} {n:Nat} {r:Option Nat} {Kp:nP} {m:Nat} {h:Code} {Q:wD->Exit->Act->wD->Prop} {W:wD} {G:Exit->Act->wD->Prop} {l:Sl} {w:wD} (L:Keeps Kp W w) (M : ∀F,Fr (· = m) w F->CR P n r h (Q F) l F):QW n (Exit.then (NV P r Kp m h Q W) G) .normal l w:=by
 unfold QW;exact fun a N=>⟨L,fun F O=>M F O a N⟩
def KA {K:Act->wD->Prop} : ¬LetsOut (Exit.then K (fun _ _ _=>False)):=fun ⟨_,_,h⟩=>h
def QM {α:Type} {P:Program} {n:Nat} {g:Operand} {p q:Tmp} {F N:Code} {Q:Exit->Act->wD->Prop} {l:Sl} {w:wD} {gf:Nat} {lb:lV} {rep:Nat->wD->lV->α->Prop} {Rt:nP} {S:List α}
 (hp:cV p n=true) (hq:cV q n=true) (hg:ev l g=some (.func (.func gf) #[] lb.toArray)) (eg:CO P gf=true) (aa:OW P gf lb rep Rt S w) (Y : ∀c W vs x,rep c W vs x -> ∃u v,vs=[u,v]) (ab : ∀k,Rt k->k<w.heap.size)
 (J Jx:(nP)->List α->wD->Prop) (hJ:Nb w.heap.size J) (ac:Nb w.heap.size Jx) (h0:J (fun _=>False) [] w)
 (L : ∀r A pre x u v W,(∀k,A k->w.heap.size<=k/\k<W.heap.size)->A (w.heap.size+1)->J A pre W->rep (w.heap.size+2) W [u,v] x->(pre++[x]) <+: S ->
  CR P n (some r) F (Exit.then (NV P (some r) (fun k=>A k\/Rt k) (w.heap.size+1) N (fun W₂=>Ik (fun k=>A k\/Rt k) J Jx A (pre++[x]) W₂) W) (fun _ _ _=>False)) ((q,v)::(p,u)::l) W)
 (U : ∀A W,(∀k,A k->w.heap.size<=k)->J A S W->A w.heap.size->W.heap[w.heap.size]? = some (.deferred (some []))->Nc (OY w.heap.size) n Q .normal l W)
 (V : ∀A pre W,(∀k,A k->w.heap.size<=k)->pre <+: S->Jx A pre W->A w.heap.size->W.heap[w.heap.size]? = some (.deferred (some []))->Nc (OY w.heap.size) n Q .ret l W) :
 CW P n (.rangeFunc g #[p,q] F N) Q l w:=by
 refine YV fun a M=>?_
 refine R8 (M.ev hg) eg aa (fun c W vs x h=>by obtain ⟨u,v,rfl⟩:=Y c W vs x h;rfl) ab J Jx hJ ac h0 (fun r A pre x vs W Z ad hj O G=>?_) (fun A W Z hj X hk=>?_) (fun A pre W Z G hj X hk=>?_)
 . obtain ⟨u,v,rfl⟩:=Y _ W vs x O;refine L r A pre x u v W Z ad hj O G _ ?_;have e1:Env n l { a with defers:=[] }:=⟨M.size,rfl,M.has⟩
   simpa [Act.put] using (e1.put hp u).put hq v
 . exact U A W Z hj X hk _ ⟨⟨M.size,rfl,M.has⟩,by rw [M.defers];rfl⟩
 . exact V A pre W Z G hj X hk _ ⟨⟨M.size,rfl,M.has⟩,by rw [M.defers];rfl⟩
def NX {D:List Deferred} {n i:Nat} {Q:Exit->Act->wD->Prop} {l:Sl} {w:wD} (h:Nc D n Q .normal l w):Nc D n (Exit.inBlock i Q) .normal l w:=h
def Nf {D:List Deferred} {n i:Nat} {Q:Exit->Act->wD->Prop} {l:Sl} {w:wD} (h:Nc D n Q .ret l w):Nc D n (Exit.inBlock i Q) .ret l w:=h
def OZ {D:List Deferred} {n:Nat} {K:Act->wD->Prop} {Q:Exit->Act->wD->Prop} {l:Sl} {w:wD} (h:Nc D n Q .ret l w):Nc D n (Exit.then K Q) .ret l w:=h
section
variable {α:Type} {n:Nat} {Kp:nP} {J Jx:(nP)->List α->wD->Prop} {A:nP} {xs:List α} {W w:wD} {l:Sl}
def O0 (h:Keeps Kp W w) (F:J A xs w):QW n (Ik Kp J Jx A xs W) .normal l w:=by unfold QW;exact fun _ _=>⟨h,F⟩
def ZA (h:Keeps Kp W w) (F:Jx A xs w):QW n (Ik Kp J Jx A xs W) .ret l w:=by unfold QW;exact fun _ _=>⟨h,F⟩
def Yn {P:Program} {r:Option Nat} {Q:Exit->Act->wD->Prop} {x y:Code} {ι:Type} (L:ι->Sl) (I:ι->wD->Prop) (h:CR P n r x (Exit.then (fun a w=> ∃i,Env n (L i) a/\I i w) Q) l w) (k : ∀i w,I i w->CR P n r y Q (L i) w):CR P n r (.seq x y) Q l w:=fun a F=>
 wpIn_seq (wpIn_mono (h a F) (fun e a w q=>by
  cases e with
  | normal=>obtain ⟨i,G,M⟩:=q;exact k i w M a G
  | _=>exact q))
end
section
variable {P:Program} {n:Nat} {r:Option Nat} {Q:Exit->Act->wD->Prop} {l:Sl} {w:wD} {c:Operand} {x y:Code}
def Jj {p:Prop} [Decidable p] (h:ev l c=some (.bool (decide p))) (F:p->CR P n r x Q l w) (G : ¬p->CR P n r y Q l w):CR P n r (.cond c x y) Q l w:=Yk h (fun e=>F (of_decide_eq_true e)) (fun e=>G (of_decide_eq_false e))
def ZB {p:Prop} [Decidable p] (F:ev l c=some (.bool (decide p))) (G:p) (h:CR P n r x Q l w):CR P n r (.cond c x y) Q l w:=Jj F (fun _=>h) (fun e=>absurd G e)
def aA {p:Prop} [Decidable p] (F:ev l c=some (.bool (decide p))) (G : ¬p) (h:CR P n r y Q l w):CR P n r (.cond c x y) Q l w:=Jj F (fun e=>absurd e G) (fun _=>h)
end
attribute [irreducible] ZP U6 Nc
section
variable {P:Program} {n:Nat} {l:Sl} {w:wD} {ty:TypeId} {Q:Exit->Act->wD->Prop} {ops:Array Oper} {rest:List Oper} {pos:String} {after:Array Edge} {A:Ending->wD->Prop} {B:List PanicEntry->wD->Prop} {D:List Deferred}
def UB {f:FuncId} {fn:Func} {c:Code} {args:lV} {R:Ending->wD->Prop}
 (G:P.funcs[f]? = some fn) (U:fn.ntmps=n) (L:fn.body=some c) (M:dW args.length n=true) (h:CW P n c (bodyPostD P fn R) (GV 0 args) w):Calls P f args.toArray w R:=by
 unfold CW at h;refine calls_of_wp_defers G L (h _ ?_);have N:args.length<=n:=by simpa using M
 refine ⟨by simp;omega,rfl,fun d v O=>?_⟩;obtain ⟨-,F⟩:=GB d v args 0 O;simp only [Nat.sub_zero] at F;have:d<args.length:=by
  rcases cO d args.length with h|h
  . exact h
  . rw [cI h] at F;cases F
 rw [bT this] at F;simp only [cE] at F;simp [Array.getElem?_append,this,F]
def Wp {x:Operand} {f:Fn} {fi ca:Array Value} (F:ev l x=some (.func f fi ca)) (k:U6 P [⟨.fn f ca,fi⟩] n ops Q rest l w):LW P n ops Q (⟨none,.defer ⟨.value x,#[],#[]⟩,ty,pos,after,none⟩::rest) l w:=by
 unfold U6 at k;unfold LW;intro a h;unfold wpList;rw [AG (Bo rfl)];left;have e:(execOp a.eval ⟨none,.defer ⟨.value x,#[],#[]⟩,ty,pos,after,none⟩).run P w = .ok (.defer ⟨.fn f ca,fi⟩) w:=by
  simp [execOp,resolve,h.ev F,Deferred.ofValue,cG]
 unfold eL;rw [e];refine k _ ⟨⟨h.size,rfl,h.has⟩,?_⟩;show _::a.defers=_;rw [h.defers]
def UC {f:FuncId} {x:Operand} {fi ca:lV} {xs:List Operand} {tys:Array TypeId} {vs:lV} {d:Nat} (N:CO P f=true) (O:ev l x=some (.func (.func f) fi.toArray ca.toArray)) (L:evs l xs=some vs) (U:cV d n=true) (C:Calls P f (fi++vs++ca).toArray w (TC A B))
 (V : ∀e w1,A e w1 -> ∃v,e = .returned v) (k : ∀v w1,A (.returned v) w1->U6 P D n ops Q rest ((d,v)::l) w1) (M : ∀c w1,B c w1->Nc D n Q (.panic c) l w1) :
 U6 P D n ops Q (⟨some d,.call ⟨.value x,xs.toArray,tys⟩,ty,pos,after,none⟩::rest) l w:=by
 unfold U6 at k ⊢;unfold Nc at M;intro a G;unfold wpList;rw [AG (Bo rfl)];left;have F:xs.map a.eval=vs:=G.1.evs L;have e:(execOp a.eval ⟨some d,.call ⟨.value x,xs.toArray,tys⟩,ty,pos,after,none⟩).run P w = .ok (.enter f (fi++vs++ca).toArray) w:=by
  simp only [execOp,resolve,G.ev O,Deferred.ofValue,cU,dC,cG,invoke];rw [D2 N];simp [<-F]
 unfold eL;rw [e];refine dY C fun e w1 h=>?_
 rcases h with h|⟨c,rfl,h⟩
 . obtain ⟨v,rfl⟩:=V e w1 h;exact k v w1 h _ (G.put U v)
 . exact M c w1 h a G
def Mu {K:Act->wD->Prop} {c:List PanicEntry} (h:Nc D n Q (.panic c) l w):Nc D n (Exit.then K Q) (.panic c) l w:=by unfold Nc at h ⊢;exact h
def NY {fn:Func} {R:Ending->wD->Prop} {e:Exit} {u u':FrameMode} {f:FuncId} {fi ca:lV} {t F sz:Nat} {s:Sk} {tab:Tab} {b:Nat} (L:(e = .ret/\u = .returning) \/ ∃c,e = .panic c/\u = .panicking c) (O:CO P f=true)
 (h:fn.results = #[.cell t F]) (T:TabOk P tab) (U:Az tab F=some (s,sz)) (V:s.agg=false) (X:look l t=some (.pointer (some ⟨b,0,none⟩))) (Y:settle u' = .returning)
 (C:CallsD P f (fi++ca).toArray u w fun e M w1=>M=u'/\e = .returned (.tuple #[]) /\ ∃v,Blk w1 b [v]/\R (.returned v) w1):Nc [⟨.fn (.func f) ca.toArray,fi.toArray⟩] n (bodyPostD P fn R) e l w:=by
 unfold Nc;intro a N;have key:Leaves P fn a.tmps R a.defers u w:=by
  rw [N.2];refine leaves_cons (f:=f) (args:=(fi++ca).toArray) ?_ ?_ (CallsD.mono C ?_)
  . rcases L with ⟨-,rfl⟩|⟨c,-,rfl⟩<;>simp
  . simp only [invoke];rw [D2 O];simp
  . rintro e1 M w1 ⟨rfl,rfl,v,G,Z⟩;simp only;rw [Y];exact ⟨v,QK h T U V (N.1.has t _ X) (G.cell rfl),Z⟩
 rcases L with ⟨rfl,rfl⟩|⟨c,rfl,rfl⟩<;>exact key
def Mw {f:FuncId} {fn:Func} {t d id:Nat} {O V:TypeId} {L M:String} {F G:Array Edge} {y:Code} {args:lV} {u u':FrameMode} {v:Value} {R:Ending->wD->Prop}
 (hf:P.funcs[f]? = some fn) (hn:fn.ntmps=n) (hb:fn.body=some (.seq (.region id #[⟨some t,.call ⟨.builtin .recover,#[],#[]⟩,O,L,F,none⟩,⟨some d,.assign (.tmp t),V,M,G,none⟩] false) y)) (hl:dW args.length n=true) (ht:cV t n=true) (hd:cV d n=true)
 (hr : ∀(c:Frame) (cs:List Frame),c.mode=u->recoverD (c::cs)=some (v,{ c with mode:=u' }::cs)\/(recoverD (c::cs)=none/\v = .nilIface/\u'=u))
 (h:CW P n y (bodyPost P fn R) ((d,v)::(t,v)::GV 0 args) w):CallsD P f args.toArray u w fun e X w'=>X=u'/\R e w':=by
 unfold CW at h;refine callsD_of_wpS hf hb fun c₀ cs hu=>wpS_seq (wpS_region ?_)
 have h0:({ tmps:=args.toArray++eO (fn.ntmps-args.toArray.size) undef,defers:=[] }:Act).defers=[]:=rfl;have Y:Env n (GV 0 args) { tmps:=args.toArray++eO (fn.ntmps-args.toArray.size) undef,defers:=[] }:=by
  have ac:args.length<=n:=by simpa using hl
  refine ⟨by simp;omega,rfl,fun d v hv=>?_⟩;obtain ⟨-,N⟩:=GB d v args 0 hv;simp only [Nat.sub_zero] at N;have:d<args.length:=by
   rcases cO d args.length with h|h
   . exact h
   . rw [cI h] at N;cases N
  rw [bT this] at N;simp only [cE] at N;simp [Array.getElem?_append,this,N]
 generalize ({ tmps:=args.toArray++eO (fn.ntmps-args.toArray.size) undef,defers:=[] }:Act)=a at *;have Z : ∀(c1:Frame),c1={ c₀ with mode:=u' }->wpOpsS P #[⟨some t,.call ⟨.builtin .recover,#[],#[]⟩,O,L,F,none⟩,⟨some d,.assign (.tmp t),V,M,G,none⟩] (Exit.thenS (y.wpS P (bodyPostS P fn c₀ cs fun e X w'=>X=u'/\R e w')) (bodyPostS P fn c₀ cs fun e X w'=>X=u'/\R e w')) [1] (a.put (some t) v) (c1::cs) w:=fun c1 aa=>by
  have he:=Y.put ht v;have ab:(a.put (some t) v).eval (.tmp t)=v:=he.ev (by simp [ev,It]);simp only [wpOpsS,List.getElem?_toArray,List.getElem?_cons_succ,dF];rw [AG (Bo rfl)];simp only [execOp,dC,ab,Oper.upon];refine wpS_of_wp (wp_mono (h _ (he.put hd v)) fun e a1 w1 U=>?_);subst aa;cases e with
  | normal=>
   obtain ⟨q1,v1,q2,q3⟩:=U;exact ⟨q1,u',rfl,v1,q2,rfl,q3⟩
  | ret=>
   obtain ⟨q1,v1,q2,q3⟩:=U;exact ⟨q1,u',rfl,v1,q2,rfl,q3⟩
  | panic c=>
   obtain ⟨q1,q3⟩:=U;exact ⟨q1,u',rfl,rfl,q3⟩
  | outgrown=>exact ⟨u',rfl,U⟩
  | exit i=>exact U
  | goto i=>exact U
 simp only [List.size_toArray,cF,dD,show List.range 2=[0,1] from rfl];unfold wpOpsS;simp only [List.getElem?_toArray,dF];rw [AG (Bo rfl)];have e1:(execOp a.eval ⟨some t,.call ⟨.builtin .recover,#[],#[]⟩,O,L,F,none⟩).run P w = .ok .recover w:=by
  simp [execOp,resolve,invoke,builtin,cG]
 rw [e1];simp only;rcases hr c₀ cs hu with h1|⟨h1,N,h3⟩
 . rw [h1];exact Z _ rfl
 . rw [h1];subst N;refine Z _ ?_;rw [h3,<-hu]
end
open Go.Proofs
attribute [local irreducible] Go.Calls
section
variable {c:RC} {P P':nP} {w w':wD} {r:Rn} {T:nP}
def Run.away (h:Run c P w r) (x:Fr T w w') (O : ∀k,T k->P k /\ ¬c.S k):Run c P w' r:=by
 obtain ⟨ρ,κ,U,V,X,Y,⟨es,Z,h6⟩,h7,h8,h9,M,G⟩:=h;have hs:=x.size;have N : ∀k,Z3 (ρ k) -> ¬T k:=fun k F L=>(G k (O k L).1).1 F
 exact ⟨ρ,κ,U,V,X,Y.fr x (N _ (by rw [U];exact bX (bW rfl))),⟨es,Z,h6.fr x (N _ (by rw [V];exact bX (bX rfl)))⟩,h7.fr x (fun k F L=>N k (bW L) F),h8,h9.frS x (fun k F L=>(O k L).2 F),M,fun k F=>⟨(G k F).1,by have:=(G k F).2;omega⟩⟩
def Wq (h:Nat) (w:wD) (F:Blk w h [.slice none 0 0,.bool false]):Calls prog 105 #[.pointer (some ⟨h,0,none⟩)] w fun e w'=>e = .returned (.int .i64 0)/\Ext w w':=by
 have X:=eU w;refine Ac func105 ntmps105 rfl rfl ?_;refine eK ?_;refine C1 (A2 Ad rfl rfl) ?_;refine eK ?_;refine xR ?_;exact ⟨rfl,X⟩
def Wr (h F G:Nat) (w:wD):CallsD prog 106 #[.pointer (some ⟨h,0,none⟩),.pointer (some ⟨F,0,none⟩),.pointer (some ⟨G,0,none⟩)] .returning w fun e u w'=>u = .returning/\e = .returned (.tuple #[])/\Ext w w':=by
 have X:=eU w;refine Mw (args:=[_,_,_]) (v:=.nilIface) func106 ntmps106 rfl rfl rfl rfl (fun c cs L=>bX ⟨by simp [recoverD,L],rfl,rfl⟩) ?_;refine eK ?_;refine C1 (TE Ad rfl rfl) ?_;refine eK ?_;refine Oh rfl ?_;exact ⟨rfl,X⟩
def R9 (b2 b5 U jb:Nat) (er e0:Int) (w:wD) (L:Blk w b2 [.pointer (some ⟨jb,0,none⟩)]) (M:Blk w jb [.slice none 0 0,.bool false]) (N:Blk w b5 [.int .i64 0]) (O:Blk w U [.int .i64 e0]) (ae:U<w.heap.size) :
 CallsD prog 106 #[.pointer (some ⟨b2,0,none⟩),.pointer (some ⟨b5,0,none⟩),.pointer (some ⟨U,0,none⟩)] (.panicking (Mp er)) w fun e u w'=>u = .panicking [{ v:=.iface 156 (.agg #[.int .i64 er]),recovered:=true }]/\e = .returned (.tuple #[])/\Blk w' U [.int .i64 er]/\Fr (· = U) w w':=by
 have F:=fC (· = U) w;have HL:=bU (fun w1 h=>Wq jb w1 h);refine Mw (args:=[_,_,_]) (v:=.iface 156 (.agg #[.int .i64 er])) func106 ntmps106 rfl rfl rfl rfl (fun c cs hc=>bW (by simp [recoverD,hc,Mp])) ?_;refine eK ?_;refine C1 (Vj Ad rfl rfl) ?_;refine eK ?_;refine Ar (fun wz=>Ext w wz) 3 (.pure 0 (.pure 2 (.fork 1 .tail .none))) mixed A9 (Aa (Aa Ah)) ?_;intro w1 x2 _;have G:(fun wz=>Ext w wz) w1:=x2;simp only at G;have V:=L;have ac:=M;have X:=N;have ad:=O;revert L M N O F;refine eY x2 ?_;intro z4 L M N O F;refine ⟨G,?_⟩;refine Tq rfl (Db V) (Tq rfl (Db X) ?_);refine tC rfl rfl (HL.out _ Ae) ?_;rintro _ w7 ⟨⟨⟩,x6⟩;revert G L M N O F;refine eY x6 ?_;intro z8 G L M N O F;refine ⟨G,?_⟩;refine At rfl ?_;refine eK ?_;refine C1 (Rz A9 rfl) ?_;refine eK ?_;refine xA [_] ?_;intro b9 af aa;refine eI [_] aa ?_;intro ag Y ab ah ai;revert L M N O F;refine eE ab ?_;intro L M N O F;refine eK ?_;refine eS [_] O ?_;intro aj ak Z z20;have Y:=Y.fr Z Ab;clear L M N;have F:=F.fr Z Ab;refine Ak (Bs rfl ?_);exact ⟨rfl,Ae,F⟩
def ZC (c:RC) (P:nP) (Z:Except Int Rn) (w:wD):Ending->wD->Prop:=fun e w'=> ∃er,e = .returned (.int .i64 er)/\((er=0 /\ ∃r,Z = .ok r/\Run c P w' r)\/(er≠0/\Z = .error er))/\Fr (fun k=> ¬P k) w w'
def UD {V:Nat} {f:FuncId} {ca:lV} (hb:CO prog f=true) {Z:Except Int Rn} (hz:Z≠.error 0) (w:wD) (hP : ∀k,P k->k<w.heap.size) (hS : ∀k,c.S k->P k) (aa:P V) (M:Blk w V [.slice none 0 0,.bool false])
 (HC : ∀w1,Ext w w1->Calls prog f ca.toArray w1 (D0 c (Ci P w w1) Z w1)) :
 Calls prog 64 #[.pointer (some ⟨V,0,none⟩),.func (.func f) #[] ca.toArray] w (ZC c P Z w):=by
 have X:=eU w;have HL:=bU (fun w1 h=>Wq V w1 h);have HC:=bU HC;refine UB (args:=[_,_]) func64 ntmps64 rfl rfl ?_;refine cS (eB [_] ?_);intro Y w2 U x5 p6 z7;revert M X;refine eE x5 ?_;intro M X;refine eA [_] ?_;intro N w9 G ab ag ah;revert U M X;refine eE ab ?_;intro U M X;refine eK ?_;refine C1 (A2 Ad rfl rfl) ?_;refine eK ?_;refine C1 (JB Ad rfl rfl) ?_;refine eK ?_;refine cC rfl (HL.out _ Ae) ?_;rintro _ ai ⟨⟨⟩,ac⟩;revert G U M X;refine eY ac ?_;intro aj G U M X;refine xA [_] ?_;intro O ak ad;refine eI [_] ad ?_;intro al ae af am an;revert G U M X;refine eE af ?_;intro G U M X;refine cT ?_;have ao:=X.size;refine Ai (Aj (CD (D9 rfl) rfl (Wp rfl (J6 (F8 ?_)))));refine Lo (Hn (Mt (AL rfl) rfl (UC (fi:=[]) (vs:=[]) (ca:=ca) (xs:=[]) hb rfl rfl rfl (HC.out _ X) (fun _ _ h=>h.ret) ?_ ?_)))
 . rintro v w1 ⟨r,he,hr,hv,F⟩;obtain rfl:=Ending.returned.inj he;have h8:=G.fr F (fun h=>h (bX ⟨Ab,Ab⟩));refine J6 (F8 (Lo (Hn (NT Ad rfl rfl rfl rfl rfl h8 fun w3 h9 F2=>J6 (F8 (OX (NY (u':=.returning) (fi:=[]) (ca:=[.pointer (some ⟨Y,0,none⟩),.pointer (some ⟨O,0,none⟩),.pointer (some ⟨N,0,none⟩)]) (bW ⟨rfl,rfl⟩) A9 rfl Ad rfl rfl rfl rfl ((Wr Y O N w3).mono ?_))))))));rintro e u w4 ⟨rfl,rfl,x4⟩;have F3:Fr (fun k=> ¬P k) w w4:=(((fE X).fr F (fun k L=>bW (fun h=>L (bW h)))).fr F2 (fun k L=>bW (fun h=>by have:=hP k h;have e:k=N:=L;omega))).ext x4;exact ⟨rfl,rfl,_,h9.ext x4,0,rfl,bW ⟨rfl,r,hr,((hv.away F2 (fun k L=>⟨bX ⟨by have e:k=N:=L;omega,by have e:k=N:=L;omega⟩,fun h=>by have e:k=N:=L;have:=hP k (hS k h);omega⟩)).ext x4).less hS (fun k=>bW)⟩,F3⟩
 . rintro ch w1 ⟨er,he,rfl,F⟩;have h8:=G.fr F (fun h=>h (bX ⟨Ab,Ab⟩));refine Mu (NY (u':=.panicking [{ v:=.iface 156 (.agg #[.int .i64 er]),recovered:=true }]) (fi:=[]) (ca:=[.pointer (some ⟨Y,0,none⟩),.pointer (some ⟨O,0,none⟩),.pointer (some ⟨N,0,none⟩)]) (bX ⟨_,rfl,rfl⟩) A9 rfl Ad rfl rfl rfl rfl ((R9 Y O N V er 0 w1 (U.fr F (fun h=>h (bX ⟨Ab,Ab⟩))) (M.fr F (fun h=>h (bW aa))) (ae.fr F (fun h=>h (bX ⟨Ab,Ab⟩))) h8 h8.lt).mono ?_));rintro e u w4 ⟨rfl,rfl,h9,F2⟩;have F3:Fr (fun k=> ¬P k) w w4:=((fE X).fr F (fun k L=>bW (fun h=>L (bW h)))).fr F2 (fun k L=>bW (fun h=>by have:=hP k h;have e:k=N:=L;omega));exact ⟨rfl,rfl,_,h9,er,rfl,bX ⟨fun e=>hz (e▸he),he⟩,F3⟩
end
structure SV where
 cells:List (List Int)
 tin:List Int
 tout:List Int
def YW (S:nP) (w:wD) (b o:Nat) (xs:List Int):Prop:= ∃a c,Row w ⟨b,o,none⟩ [.slice a xs.length c]/\Rows S w (ints xs) a
def ICs (S:nP) (w:wD) (l:List (List Int)) (a:oA):Prop:=Arr S 1 (YW S) w l a
abbrev SV.row (s:SV) (a:oA) (c:Nat) (ta:oA) (tc:Nat) (oa:oA) (oc:Nat):lV:=[.slice a s.cells.length c,.slice ta s.tin.length tc,.slice oa s.tout.length oc]
structure SV.sits (S:nP) (w:wD) (s:SV) (a ta oa:oA):Prop where
 cells:ICs S w s.cells a
 tin:Rows S w (ints s.tin) ta
 tout:Rows S w (ints s.tout) oa
section
variable {S S' T:nP} {w w':wD} {l:List (List Int)} {xs:List Int} {a ta oa:oA} {s:SV}
def ICs.ext (h:ICs S w l a) (x:Ext w w'):ICs S w' l a:=h.mono aFh (fun _ _ _ _ _ ⟨a,c,h1,h2⟩=>⟨a,c,h1.ext x,h2.ext x⟩)
instance  : LfE w w' (ICs S w l a) (ICs S w' l a):=⟨fun x h=>Bk.ICs.ext h x⟩
def ICs.fr (h:ICs S w l a) (x:Fr T w w') (F : ∀b,S b -> ¬T b):ICs S w' l a:=h.mono aFh (fun b _ _ _ G ⟨a,c,h1,h2⟩=>⟨a,c,h1.fr x (F b G),h2.fr x F⟩)
instance  : LfF T w w' (ICs S w l a) (∀b,S b -> ¬T b) (ICs S w' l a):=⟨fun x s h=>Bk.ICs.fr h x s⟩
def ICs.wide (h:ICs S w l a) (F : ∀b,S b->S' b):ICs S' w l a:=h.mono F (fun _ _ _ _ _ ⟨a,c,h1,h2⟩=>⟨a,c,h1,h2.wide F⟩)
def ICs.ltA (h:ICs S w l a):ICs (· < w.heap.size) w l a:=by
 rcases h with h|⟨b,o,L,O,G⟩
 . exact bW h
 . cases l with
   | nil=>exact bW rfl
   | cons v r=>
    refine bX ⟨b,o,L,?_,fun i x M=>?_⟩
    . obtain ⟨a,c,F,-⟩:=G 0 v rfl;exact Co (fV F rfl)
    . obtain ⟨a,c,F,N⟩:=G i x M;exact ⟨a,c,F,N.ltA⟩
def ICs.get (h:ICs S w l a) (F:l≠[]) : ∃b o,a=some ⟨b,o,none⟩/\S b /\ ∀i x,l[i]? = some x->YW S w b (o+i*1) x:=by
 rcases h with h|⟨b,o,G,L,M⟩
 . exact absurd h F
 . exact ⟨b,o,G,L,fun i v N=>M i v N⟩
def SV.sits.ext (h:s.sits S w a ta oa) (x:Ext w w'):s.sits S w' a ta oa:=⟨h.cells.ext x,h.tin.ext x,h.tout.ext x⟩
instance  : LfE w w' (s.sits S w a ta oa) (s.sits S w' a ta oa):=⟨fun x h=>Bk.SV.sits.ext h x⟩
def SV.sits.fr (h:s.sits S w a ta oa) (x:Fr T w w') (F : ∀b,S b -> ¬T b):s.sits S w' a ta oa:=⟨h.cells.fr x F,h.tin.fr x F,h.tout.fr x F⟩
instance  : LfF T w w' (s.sits S w a ta oa) (∀b,S b -> ¬T b) (s.sits S w' a ta oa):=⟨fun x s h=>Bk.SV.sits.fr h x s⟩
def SV.sits.wide (h:s.sits S w a ta oa) (F : ∀b,S b->S' b):s.sits S' w a ta oa:=⟨h.cells.wide F,h.tin.wide F,h.tout.wide F⟩
def SV.sits.ltA (h:s.sits S w a ta oa):s.sits (· < w.heap.size) w a ta oa:=⟨h.cells.ltA,h.tin.ltA,h.tout.ltA⟩
end
def O1 (v:VD):Prop:=((v.kind=1\/v.kind=3)/\v.len=0)\/(v.kind=2/\1<=v.len/\v.len<=16)
def O2 (l:List VD):Prop:=l.length<=32 /\ ∀v∈l,O1 v
def KB (v:VD):Int:=if v.kind=1 then 1 else v.len
def O3 (v:VD) (xs:List Int):Prop:=if v.kind=3 then xs.length<=1000 else (xs.length:Int)=KB v
def FitsP (l:List VD) (s:SV):Prop:=O2 l/\s.cells.length=l.length/\s.tin.length<=4096/\s.tout.length<=4096 /\ ∀(i:Nat) (v:VD) (xs:List Int),l[i]? = some v->s.cells[i]? = some xs->O3 v xs
def Yo (l:List VD) (hl:l.length<=1000000) (S:nP) (a:oA) (c:Nat) (w:wD) (G:VDs S w l a) :
 Calls prog 33 #[.slice a l.length c] w fun e w'=> ∃q,e = .returned (.bool q)/\(q=true↔O2 l)/\Ext w w':=by
 have X:=eU w;refine Ac func33 ntmps33 rfl rfl ?_;by_cases O:l.length<=32
 . refine cS (C1 Pa (cT (Ai (cS (C1 Mv (C1 Pz (C1 V5 (cT (Ds (Am (Ag ?_)))))))))));refine Ai (cS (C1 Mv (C1 Pz (C1 Mv (cT ?_)))));refine Av ?_;refine A1 (ι:=Nat) (fun j=>[(2,.bool false),(8,.slice a l.length c),(9,.int .i64 l.length),(10,.int .i64 j)])
    (fun j w'=>j<=l.length/\(∀v∈l.take j,O1 v)/\VDs S w' l a/\Ext w w') (fun j=>l.length-j) 0 sB ⟨cQ _,AR,G,X⟩ ?_
   clear G X;rintro j w1 ⟨hj,L,G,X⟩;by_cases N:j<l.length
   . obtain ⟨kb,ko,rfl,kS,hk⟩:=Arr.get G Ab;have rx:=hk j _ (bT N);have F : ¬O1 l[j] -> ¬O2 l:=fun h h2=>h (h2.2 _ (cL N))
     have M:O1 l[j] -> ∀v∈l.take (j+1),O1 v:=fun h v hv=>by
      rw [dG N,List.mem_append,List.mem_singleton] at hv;rcases hv with hv|rfl
      . exact L v hv
      . exact h
     clear hk L;generalize l[j]=x at *;obtain ⟨xn,xk,xl⟩:=x;replace rx:Row w1 ⟨kb,ko+j*3,none⟩ [str xn,.int .u8 xk,.int .i64 xl]:=rx;simp only [O1] at F M
     focus
      refine eK ?_;refine xA [_,_,_] ?_;intro af ag ac;refine eI [_,_,_] ac ?_;intro ah ai ad aj ak;revert X G rx;refine eE ad ?_;intro X G rx;refine eK ?_;refine Ay rfl (fun ae=>?_) (fun ae=>?_);refine eK ?_;refine BU rfl (fun U=>?_) (fun U=>?_);refine eK ?_;refine xR ?_;rotate_left;refine Am (Af (Af (Ag (Aj (C1 V7 (C1 Mv (Ak ?_)))))));rotate_left;refine eK ?_;refine Ay rfl (fun V=>?_) (fun V=>?_);refine eK ?_;refine BU rfl (fun Y=>?_) (fun Y=>?_);refine eK ?_;refine xR ?_;rotate_left;refine Am (Af (Af (Ag (Aj (C1 V7 (C1 Mv (Ak ?_)))))));rotate_left;refine eK ?_;refine Ay rfl (fun Z=>?_) (fun Z=>?_);refine eK ?_;refine C6 rfl rfl rfl (fun aa=>?_) (fun aa=>?_);refine eK ?_;refine xR ?_;rotate_left;refine eK ?_;refine Ay rfl (fun ab=>?_) (fun ab=>?_);refine eK ?_;refine xR ?_;rotate_left;refine Am (Af (Af (Ag (Aj (C1 V7 (C1 Mv (Ak ?_)))))));rotate_left;refine eK ?_;refine xR ?_;rotate_left
     . exact ⟨false,rfl,⟨fun h=>(by cases h),fun h=>absurd h (F Ab)⟩,X⟩
     . exact AI (j+1) sB ⟨Ab,M Ab,G,X⟩ Ab
     . exact ⟨false,rfl,⟨fun h=>(by cases h),fun h=>absurd h (F Ab)⟩,X⟩
     . exact AI (j+1) sB ⟨Ab,M Ab,G,X⟩ Ab
     . exact ⟨false,rfl,⟨fun h=>(by cases h),fun h=>absurd h (F Ab)⟩,X⟩
     . exact ⟨false,rfl,⟨fun h=>(by cases h),fun h=>absurd h (F Ab)⟩,X⟩
     . exact AI (j+1) sB ⟨Ab,M Ab,G,X⟩ Ab
     . exact ⟨false,rfl,⟨fun h=>(by cases h),fun h=>absurd h (F Ab)⟩,X⟩
   . obtain rfl:j=l.length:=by omega
     rw [dB] at L;refine eK ?_;refine xR ?_;exact ⟨true,rfl,⟨fun _=>⟨O,L⟩,fun _=>rfl⟩,X⟩
 . refine eK ?_;refine xR ?_;exact ⟨false,rfl,⟨fun h=>(by cases h),fun h=>absurd h.1 O⟩,X⟩
def Yp (v:VD) (w:wD):Calls prog 34 #[v.val] w fun e w'=>e = .returned (.int .i64 (KB v))/\Ext w w':=by
 have X:=eU w;obtain ⟨M,G,N⟩:=v;unfold KB;by_cases L:G=1
 . subst L;refine Ac func34 ntmps34 rfl rfl ?_;refine cS (JA [_,_,_] rfl rfl rfl ?_);intro b1 w2 h;have O:=h.blk;dsimp only at O;have U:=h.ext;have p6:=h.pos;have z7:=h.size;have X:=X.ext U;refine eK ?_;refine xR ?_;exact ⟨rfl,X⟩
 . change Calls prog _ #[.agg #[str M,.int .u8 G,.int .i64 N]] w _;simp only [As L];refine Ac func34 ntmps34 rfl rfl ?_;refine cS (eB [_,_,_] ?_);intro V Y Z F aa ab;have X:=X.ext F;refine eK ?_;refine xR ?_;exact ⟨rfl,X⟩
def Ws (l:List VD) (hl:l.length<=1000000) (s:SV) (S:nP) (a ca ta oa:oA) (c cc tc oc:Nat) (w:wD) (hn:s.cells.length<=1000000) (F:VDs S w l a) (hv:s.sits S w ca ta oa) :
 Calls prog 10 #[.slice a l.length c,.agg (s.row ca cc ta tc oa oc).toArray] w fun e w'=> ∃q,e = .returned (.bool q)/\(q=true↔FitsP l s)/\Ext w w':=by
 have X:=eU w;replace F:VDs (· < w.heap.size) w l a:=F.lt2.wide fun _ h=>h.2
 have hv:=hv.ltA;have HV:=bU (fun w1 h=>Yo l hl (· < w.heap.size) a c w1 h);obtain ⟨cells,tin,tout⟩:=s;obtain ⟨G,-,-⟩:=hv;simp only at G hn;change Calls prog _ #[_,.agg #[.slice ca cells.length cc,.slice ta tin.length tc,.slice oa tout.length oc]] w _;have hf : ¬FitsP l ⟨cells,tin,tout⟩ -> ∀w',Ext w w' -> ∃q,Ending.returned (.bool false) = .returned (.bool q)/\(q=true↔FitsP l ⟨cells,tin,tout⟩)/\Ext w w':=fun h w' x=>⟨false,rfl,⟨fun h=>(by cases h),fun U=>absurd U h⟩,x⟩
 by_cases e1:O2 l
 . have V:Hid (∀w1,VDs (· < w.heap.size) w1 l a->Calls prog 33 #[.slice a l.length c] w1 fun e w'=>e = .returned (.bool true)/\Ext w1 w'):=bU fun w1 h=>(HV.out w1 h).mono fun e w' ⟨q,h1,U,h3⟩=>⟨by rw [h1,U.2 e1],h3⟩
   clear HV;by_cases e2:cells.length=l.length
   . by_cases e3:tin.length<=4096
     . by_cases e4:tout.length<=4096
       . refine Ac func10 ntmps10 rfl rfl ?_;refine cS (eB [_,_,_] ?_);intro b1 w2 L x5 p6 z7;revert X F G;refine eE x5 ?_;intro X F G;refine eK ?_;refine cC rfl (V.out _ Ae) ?_;rintro _ w9 ⟨⟨⟩,x8⟩;revert L X F G;refine eY x8 ?_;intro bk L X F G;refine C1 Pt (C1 Mv (Bh rfl rfl rfl (rfl) (C1 Pg (Bh rfl rfl rfl (rfl) (C1 (Pl L) (Bh rfl rfl rfl (rfl) (C1 Pz (Bh rfl rfl rfl (rfl) (C1 Mv (Bh rfl rfl rfl (rfl) (C1 Pz ?_)))))))))));refine Bh rfl rfl rfl (rfl) (C1 V2 (C1 (B0 rfl rfl rfl) (C1 Mv (EB (C1 Pf (EB (C1 (Pl L) (EB (C1 Pz (EB (C1 V5 ?_)))))))))));refine C1 Jq (C1 Mv (EB (C1 Pf (EB (C1 (Pl L) (EB (C1 Pz (EB (C1 V5 (C1 Jq (cT ?_)))))))))));refine Ds (Am (Ag (Ai (cS (C1 Mv (C1 Pz (C1 Mv (cT ?_))))))));refine Av ?_;refine A1 (ι:=Nat) (fun j=>[(3,.pointer (some ⟨b1,0,none⟩)),(4,.bool false),(30,.slice a l.length c),(31,.int .i64 l.length),(32,.int .i64 j)])
          (fun j w'=>j<=l.length/\(∀(i:Nat) (v:VD) (xs:List Int),i<j->l[i]? = some v->cells[i]? = some xs->O3 v xs)/\Blk w' b1 [.slice ca cells.length cc,.slice ta tin.length tc,.slice oa tout.length oc]/\VDs (· < w.heap.size) w' l a/\ICs (· < w.heap.size) w' cells ca/\Ext w w'/\b1+1<=w'.heap.size) (fun j=>l.length-j) 0 sB ⟨cQ _,fun i v xs h=>by omega,L,F,G,X,Ab⟩ ?_
         clear L F G X;rintro j w1 ⟨hj,ad,L,F,G,X,hz⟩;by_cases ae:j<l.length
         . obtain ⟨kb,ko,rfl,kS,hk⟩:=Arr.get F Ab;obtain ⟨db,bl,rfl,dS,hd⟩:=G.get (by intro e;rw [e] at e2;simp at e2;omega);have O:=hk j _ (bT ae);obtain ⟨xa,xc,Y,-⟩:=hd j _ (bT Ab);have Z : ¬O3 l[j] cells[j] -> ¬FitsP l ⟨cells,tin,tout⟩:=fun h U=>h (U.2.2.2.2 j _ _ (bT ae) (bT (show j<cells.length by omega)))
           have aa:O3 l[j] cells[j] -> ∀(i:Nat) (v:VD) (xs:List Int),i<j+1->l[i]? = some v->cells[i]? = some xs->O3 v xs:=fun h i v xs hi h1 U=>by
            by_cases e:i=j
            . subst e;rw [bT ae] at h1;rw [bT Ab] at U;rw [<-cD h1,<-cD U];exact h
            . exact ad i v xs Ab h1 U
           have HX:=bU (fun w1=>Yp l[j] w1);clear hk hd ad;generalize l[j]=x at *;generalize cells[j]=xs at *;obtain ⟨xn,xk,xl⟩:=x;replace O:Row w1 ⟨kb,ko+j*3,none⟩ [str xn,.int .u8 xk,.int .i64 xl]:=O;unfold VD.val at HX;unfold O3 at Z aa;dsimp only at Z aa HX;by_cases af:xk=3
           . rw [AG af] at Z aa
             focus
              refine eK ?_;refine eA [_,_,_] ?_;intro bm bn au av bo bp;revert X F L G Y O;refine eE av ?_;intro X F L G Y O;refine C1 Pa (eS [_,_,_] au ?_);intro bq a6 ag a7;revert X F L G Y O;refine eF ag ?_;intro X F L G Y O;refine eK ?_;refine Ay rfl (fun ah=>?_) (fun ah=>?_);refine eK ?_;refine xR ?_;rotate_left;refine Am (Af (Ag (Aj (C1 V7 (C1 Mv (Ak ?_))))));rotate_left
             . exact hf (Z Ab) _ X
             . exact AI (j+1) sB ⟨Ab,aa Ab,L,F,G,X,Ab⟩ Ab
           . rw [As af] at Z aa
             focus
              refine eK ?_;refine eA [_,_,_] ?_;intro br bs aw ax bt bu;revert X F L G Y O;refine eE ax ?_;intro X F L G Y O;refine C1 Pa (eS [_,_,_] aw ?_);intro ai N aj a8;revert X F L G Y O;refine eF aj ?_;intro X F L G Y O;refine eK ?_;refine Ar (fun wz=>Ext ai wz) 8 (.pure 0 (.pure 1 (.pure 2 (.pure 3 (.pure 4 (.pure 5 (.pure 6 (.fork 7 .tail .none)))))))) mixed A9 (Aa (Al (Aa (Aa (Al (Aa Ah)))))) ?_;intro ak ac _;have M:(fun wz=>Ext ai wz) ak:=ac;simp only at M;have ab:=N;have a9:=F;have ba:=L;have bb:=G;have al:=Y;have bc:=O;revert N X F L G Y O;refine eY ac ?_;intro bd N X F L G Y O;refine ⟨M,?_⟩;refine eT ?_;refine Tq rfl (An Ad rfl rfl rfl (fun wz hz=>fV (Row.ext al hz) rfl)) (Tq rfl Pz (Tq rfl (xL [_,_,_] (fun wz hz=>(fH ab hz))) ?_));refine tC rfl rfl (HX.out _) ?_;rintro _ be ⟨⟨⟩,am⟩;revert M N X F L G Y O;refine eY am ?_;intro bf M N X F L G Y O;refine ⟨M,?_⟩;refine At rfl ?_;refine eK ?_;refine BU rfl (fun an=>?_) (fun an=>?_);refine eK ?_;refine xR ?_;rotate_left;refine Am (Af (Ag (Aj (C1 V7 (C1 Mv (Ak ?_))))));rotate_left
             . exact hf (Z Ab) _ X
             . exact AI (j+1) sB ⟨Ab,aa Ab,L,F,G,X,Ab⟩ Ab
         . obtain rfl:j=l.length:=by omega
           refine eK ?_;refine xR ?_;exact ⟨true,rfl,⟨fun _=>⟨e1,e2,e3,e4,fun i v xs h1 U=>ad i v xs (by have:=List.getElem?_eq_some_iff.1 h1;exact this.1) h1 U⟩,fun _=>rfl⟩,X⟩
       . refine Ac func10 ntmps10 rfl rfl ?_;refine cS (eB [_,_,_] ?_);intro bv bw ao ay bx bz;revert X F G;refine eE ay ?_;intro X F G;refine eK ?_;refine cC rfl (V.out _ Ae) ?_;rintro _ b0 ⟨⟨⟩,az⟩;revert ao X F G;refine eY az ?_;intro bg ao X F G;refine eK ?_;refine xR ?_;exact hf (fun h=>e4 h.2.2.2.1) _ X
     . refine Ac func10 ntmps10 rfl rfl ?_;refine cS (eB [_,_,_] ?_);intro b2 b3 ap a0 b4 b5;revert X F G;refine eE a0 ?_;intro X F G;refine eK ?_;refine cC rfl (V.out _ Ae) ?_;rintro _ b6 ⟨⟨⟩,a1⟩;revert ap X F G;refine eY a1 ?_;intro bh ap X F G;refine eK ?_;refine xR ?_;exact hf (fun h=>e3 h.2.2.1) _ X
   . refine Ac func10 ntmps10 rfl rfl ?_;refine cS (eB [_,_,_] ?_);intro b7 b8 aq a2 b9 cb;revert X F G;refine eE a2 ?_;intro X F G;refine eK ?_;refine cC rfl (V.out _ Ae) ?_;rintro _ cd ⟨⟨⟩,a3⟩;revert aq X F G;refine eY a3 ?_;intro bi aq X F G;refine eK ?_;refine xR ?_;exact hf (fun h=>e2 h.2.1) _ X
 . have V:Hid (∀w1,VDs (· < w.heap.size) w1 l a->Calls prog 33 #[.slice a l.length c] w1 fun e w'=>e = .returned (.bool false)/\Ext w1 w'):=bU fun w1 h=>(HV.out w1 h).mono fun e w' ⟨q,h1,U,h3⟩=>⟨by rw [h1,show q=false by cases q with|false=>rfl|true=>exact absurd (U.1 rfl) e1],h3⟩
   clear HV;refine Ac func10 ntmps10 rfl rfl ?_;refine cS (eB [_,_,_] ?_);intro ce cf ar a4 cg ch;revert X F G;refine eE a4 ?_;intro X F G;refine eK ?_;refine cC rfl (V.out _ Ae) ?_;rintro _ ci ⟨⟨⟩,a5⟩;revert ar X F G;refine eY a5 ?_;intro bj ar X F G;refine eK ?_;refine xR ?_;exact hf (fun h=>e1 h.1) _ X
def Gp:Shape (List Int) where
 sz:=1
 rep:=fun w S xs cs=> ∃a c,cs=[.slice a xs.length c]/\Rows S w (ints xs) a
 len:=fun ⟨_,_,h,_⟩=>by rw [h];rfl
 one:=fun ⟨_,_,h,_⟩=>by rw [h];rfl
 mono:=fun ⟨a,c,h,h2⟩ hS hc=>⟨a,c,h,h2.move hS (fun b o v hb h=>hc b o v hb h)⟩
 lt:=fun ⟨a,c,h,h2⟩=>⟨a,c,h,h2.lt2⟩
def OwnQ.ics {w:wD} {R:nP} {B e:Nat} {a:oA} {len cap:Nat} {xs:List (List Int)} {S:nP} (h:OwnQ Gp w R B e (.slice a len cap) xs) (N : ∀b,R b->S b) (O : ∀b,B<=b->b<w.heap.size->S b):ICs S w xs a:=by
 by_cases G:xs=[]
 . exact bW G
 . obtain ⟨g,L,M,U,V,F⟩:=h.rows G;simp only [dI] at M;obtain ⟨rfl,-,-⟩:=M;refine bX ⟨g,0,rfl,O g U V,fun i x X=>?_⟩;obtain ⟨cs,Y,a,c,rfl,Z⟩:=F i x X;exact ⟨a,c,by simpa [Gp] using Y,Z.wide N⟩
def KC {S:nP} {w:wD} {xs:List Int} {a:oA} (h:Rows S w (ints xs) a):IntsAt w xs a:=h.wide fun _ _=>trivial
def OwnI.rowsI {w:wD} {B:Nat} {a:oA} {n c:Nat} {xs:List Int} {S:nP} (h:OwnI w B (.slice a n c) xs) (M : ∀k,(cY a n c).ownBlock=some k->S k):Rows S w (ints xs) a:=by
 rcases h.open with ⟨F,G⟩|⟨g,cap,zs,F,G,N,O,U⟩
 . subst G;exact bW rfl
 . simp only [dI] at F;obtain ⟨rfl,-,-⟩:=F;refine bX ⟨g,0,rfl,M g rfl,fun i v L=>?_⟩;exact (N.blk.row) i v (by rw [cK];exact L;exact (List.getElem?_eq_some_iff.1 L).1)
def SvR (s:SV) (w:wD):Ending->wD->Prop:=fun e w'=> ∃a c ta tc oa oc,e = .returned (.agg (s.row a c ta tc oa oc).toArray)/\s.sits (fun b=>w.heap.size<=b/\b<w'.heap.size) w' a ta oa/\Ext w w'
def SvR.ret {s:SV} {w w':wD} {e:Ending} (h:SvR s w e w') : ∃v,e = .returned v:=by
 obtain ⟨_,_,_,_,_,_,h,-⟩:=h;exact ⟨_,h⟩
def CloneS (xs:List Int) (w:wD):Ending->wD->Prop:=fun e w'=> ∃a c,e = .returned (.slice a xs.length c)/\Rows (fun b=>w.heap.size<=b/\b<w'.heap.size) w' (ints xs) a/\Ext w w'
def CloneS.ret {xs:List Int} {w w':wD} {e:Ending} (h:CloneS xs w e w') : ∃v,e = .returned v:=by
 obtain ⟨_,_,h,-⟩:=h;exact ⟨_,h⟩
def J7 (xs:List Int) (F:xs.length<=1000000) (S:nP) (a:oA) (c:Nat) (w:wD) (h:Rows S w (ints xs) a):Calls prog 27 #[.slice a xs.length c] w (CloneS xs w):=
 (FY xs F a c w (KC h)).mono fun _ _ ⟨a,c,h1,h2,h3,h4⟩=>⟨a,c,h1,h2.rowsI h3,h4⟩
def UE (s:SV) (S:nP) (a ta oa:oA) (c tc oc:Nat) (w:wD) (hn:s.cells.length<=1000000) (hc : ∀xs∈s.cells,xs.length<=1000000) (ht:s.tin.length<=1000000) (ho:s.tout.length<=1000000) (hv:s.sits S w a ta oa) :
 Calls prog 62 #[.agg (s.row a c ta tc oa oc).toArray] w (SvR s w):=by
 have X:=eU w;replace hv:=hv.ltA;obtain ⟨cells,tin,tout⟩:=s;obtain ⟨hcl,hti,hto⟩:=hv;simp only at hcl hti hto hn hc ht ho;have H1:=bU (fun w1 h=>J7 tin ht (· < w.heap.size) ta tc w1 h);have H2:=bU (fun w1 h=>J7 tout ho (· < w.heap.size) oa oc w1 h);have HC:=bU hc;clear hc
 change Calls prog _ #[.agg #[.slice a cells.length c,.slice ta tin.length tc,.slice oa tout.length oc]] w _
 refine Ac func62 ntmps62 rfl rfl ?_
 refine cS (eB [_,_,_] ?_);intro b1 w2 h4 x5 p6 z7;revert X hcl hti hto;refine eE x5 ?_;intro X hcl hti hto;refine eA [_,_,_] ?_;intro b8 w9 h12 x13 p14 z15;revert h4 X hcl hti hto;refine eE x13 ?_;intro h4 X hcl hti hto;refine cT ?_
 refine IA (ι:=Nat×oA×Nat×oA×Nat) (fun x=>[(1,.pointer (some ⟨b1,0,none⟩)),(2,.pointer (some ⟨b8,0,none⟩)),(3,.pointer (some ⟨x.1,0,none⟩))])
  (fun x w'=>Blk w' x.1 [.slice none 0 0,.slice x.2.1 tin.length x.2.2.1,.slice x.2.2.2.1 tout.length x.2.2.2.2]/\Rows (fun b=>b8<b/\b≠x.1/\b<w'.heap.size) w' (ints tin) x.2.1/\Rows (fun b=>b8<b/\b≠x.1/\b<w'.heap.size) w' (ints tout) x.2.2.2.1/\b8<x.1/\x.1<w'.heap.size/\Blk w' b1 [.slice a cells.length c,.slice ta tin.length tc,.slice oa tout.length oc]/\Blk w' b8 [.slice none 0 0,.slice none 0 0,.slice none 0 0]/\ICs (· < w.heap.size) w' cells a/\Ext w w') ?_ ?_
 . focus
    refine Ar (fun wz=>Ext w9 wz) 8 (.pure 0 (.pure 1 (.pure 3 (.pure 4 (.fork 2 (.fork 5 (.pure 6 (.fork 7 .tail .none)) (.fork 7 (.fork 5 (.pure 6 .tail) .none) .none)) (.fork 7 (.fork 2 (.fork 5 (.pure 6 .tail) .none) .none) .none)))))) mixed (by kernel_rfl) (Aa Ah) ?_;intro wa1 xa2 _;have qsa3:(fun wz=>Ext w9 wz) wa1:=xa2;simp only at qsa3;have d_h12:=h12;have d_h4:=h4;have d_hcl:=hcl;have d_hti:=hti;have d_hto:=hto;revert h12 h4 X hcl hti hto;refine eY xa2 ?_;intro za4 h12 h4 X hcl hti hto;refine ⟨qsa3,?_⟩;refine eT ?_;refine Ax rfl (AU (by kernel_rfl) rfl (H1.out _ ‹_›) (fun _ _ h=>h.ret)) rfl ?_ (fun _ h=>h) ?kra5;rintro _ wa10 ⟨aa6,⟨ca7,⟨⟨⟩,⟨ha8,xa9⟩⟩⟩⟩;revert qsa3 h12 h4 X hcl hti hto;refine eY xa9 ?_;intro za11 qsa3 h12 h4 X hcl hti hto;refine ⟨qsa3,?_⟩;refine Ax rfl (AU (by kernel_rfl) rfl (H2.out _ ‹_›) (fun _ _ h=>h.ret)) rfl ?_ (fun _ h=>h) ?kra12;rintro _ wa17 ⟨aa13,⟨ca14,⟨⟨⟩,⟨ha15,xa16⟩⟩⟩⟩;revert ha8 qsa3 h12 h4 X hcl hti hto;refine eY xa16 ?_;intro za18 ha8 qsa3 h12 h4 X hcl hti hto;refine ⟨qsa3,?_⟩;refine Tq rfl (CA [_,_,_] Ad CY rfl rfl rfl rfl) ?_;refine Ax rfl (Bt CY rfl) rfl ?_ (fun _ h=>h) Aw;rintro _ wa21 ⟨ba20,rfl,na22⟩;have ha23:=na22.blk;dsimp only at ha23;have xa24:=na22.ext;have pa25:=na22.pos
    have za26:=na22.size;revert ha15 ha8 qsa3 h12 h4 X hcl hti hto;refine eE xa24 ?_;intro ha15 ha8 qsa3 h12 h4 X hcl hti hto;refine ⟨qsa3,?_⟩;refine At rfl (eS [_,_,_] ha23 ?_);intro wa27 ha31 fa29 za30;revert ha15 ha8 h12 h4 X hcl hti hto;refine eF fa29 ?_;intro ha15 ha8 h12 h4 X hcl hti hto;refine Ak ?_;rotate_left;refine Ax rfl (Bt CY rfl) rfl ?_ (fun _ h=>h) Aw;rintro _ wa34 ⟨ba33,rfl,na35⟩;have ha36:=na35.blk;dsimp only at ha36;have xa37:=na35.ext;have pa38:=na35.pos;have za39:=na35.size;revert ha8 qsa3 h12 h4 X hcl hti hto;refine eE xa37 ?_;intro ha8 qsa3 h12 h4 X hcl hti hto;refine ⟨qsa3,?_⟩;refine Ax rfl (AU (by kernel_rfl) rfl (H2.out _ ‹_›) (fun _ _ h=>h.ret)) rfl ?_ (fun _ h=>h) Aw;rintro _ wa45 ⟨aa41,⟨ca42,⟨⟨⟩,⟨ha43,xa44⟩⟩⟩⟩;revert ha36 ha8 qsa3 h12 h4 X hcl hti hto;refine eY xa44 ?_;intro za46 ha36 ha8 qsa3 h12 h4 X hcl hti hto;refine ⟨qsa3,?_⟩;refine Tq rfl (CA [_,_,_] Ad CY rfl rfl rfl rfl) ?_;refine At rfl (eS [_,_,_] ha36 ?_);intro wa47 ha51 fa49 za50;revert ha43 ha8 h12 h4 X hcl hti hto;refine eF fa49 ?_;intro ha43 ha8 h12 h4 X hcl hti hto;refine Ak ?_;rotate_left;refine Ax rfl (Bt CY rfl) rfl ?_ (fun _ h=>h) Aw
    rintro _ wa54 ⟨ba53,rfl,na55⟩;have ha56:=na55.blk;dsimp only at ha56;have xa57:=na55.ext;have pa58:=na55.pos;have za59:=na55.size;revert qsa3 h12 h4 X hcl hti hto;refine eE xa57 ?_;intro qsa3 h12 h4 X hcl hti hto;refine ⟨qsa3,?_⟩;refine Ax rfl (AU (by kernel_rfl) rfl (H1.out _ ‹_›) (fun _ _ h=>h.ret)) rfl ?_ (fun _ h=>h) Aw;rintro _ wa65 ⟨aa61,⟨ca62,⟨⟨⟩,⟨ha63,xa64⟩⟩⟩⟩;revert ha56 qsa3 h12 h4 X hcl hti hto;refine eY xa64 ?_;intro za66 ha56 qsa3 h12 h4 X hcl hti hto;refine ⟨qsa3,?_⟩;refine Ax rfl (AU (by kernel_rfl) rfl (H2.out _ ‹_›) (fun _ _ h=>h.ret)) rfl ?_ (fun _ h=>h) Aw;rintro _ wa72 ⟨aa68,⟨ca69,⟨⟨⟩,⟨ha70,xa71⟩⟩⟩⟩;revert ha63 ha56 qsa3 h12 h4 X hcl hti hto;refine eY xa71 ?_;intro za73 ha63 ha56 qsa3 h12 h4 X hcl hti hto;refine ⟨qsa3,?_⟩;refine Tq rfl (CA [_,_,_] Ad CY rfl rfl rfl rfl) ?_;refine At rfl (eS [_,_,_] ha56 ?_);intro wa74 ha78 fa76 za77;revert ha70 ha63 h12 h4 X hcl hti hto;refine eF fa76 ?_;intro ha70 ha63 h12 h4 X hcl hti hto;refine Ak ?_;rotate_left
   all_goals exact B8 (_,_,_,_,_) (by (repeat (first|exact Cy|refine AQ rfl ?_|refine Bx rfl (by go_num) ?_))) ⟨by assumption,Rows.wide ‹_› (fun b h=>⟨by omega,by simp only;omega,by omega⟩),Rows.wide ‹_› (fun b h=>⟨by omega,by simp only;omega,by omega⟩),by simp only;omega,by simp only;omega,by assumption,by assumption,by assumption,X⟩
 . clear h4 h12 hcl hti hto X H1 H2;rintro ⟨bq,a1,c1,a2,c2⟩ w1 ⟨hbq,hr1,hr2,o1,o2,hb1,hb8,hcl,X⟩;simp only at hbq hr1 hr2 o1 o2
   refine Ai (cS (C1 Pg (C1 (Pl hb1) (C1 Pz (C1 Mv (cT ?_))))))
   refine Av ?_;refine A1 (ι:=Nat) (fun j=>[(1,.pointer (some ⟨b1,0,none⟩)),(2,.pointer (some ⟨b8,0,none⟩)),(3,.pointer (some ⟨bq,0,none⟩)),(14,.slice a cells.length c),(15,.int .i64 cells.length),(16,.int .i64 j)])
    (fun j w'=> ∃ra rc,j<=cells.length/\OwnQ Gp w' (fun b=>w1.heap.size<=b) w1.heap.size 30 (.slice ra (cells.take j).length rc) (cells.take j)/\Blk w' bq [.slice ra (cells.take j).length rc,.slice a1 tin.length c1,.slice a2 tout.length c2]/\Rows (fun b=>b8<b/\b≠bq/\b<w1.heap.size) w' (ints tin) a1/\Rows (fun b=>b8<b/\b≠bq/\b<w1.heap.size) w' (ints tout) a2/\Blk w' b8 [.slice none 0 0,.slice none 0 0,.slice none 0 0]/\ICs (· < w.heap.size) w' cells a/\Ext w w'/\w1.heap.size<=w'.heap.size)
    (fun j=>cells.length-j) 0 sB ⟨none,0,cQ _,OwnQ.nil,hbq,hr1,hr2,hb8,hcl,X,cH _⟩ ?_
   clear hbq hr1 hr2 hb8 hcl X hb1;rintro j w3 ⟨ra,rc,hj,hown,hbq,hr1,hr2,hb8,hcl,X,hz⟩
   have hob : ∀g',(cY ra (cells.take j).length rc).ownBlock=some g'->w1.heap.size<=g'/\g'<w3.heap.size:=fun g' h=>⟨hown.ge h,hown.lt h⟩
   have hxl:(cells.take j).length<=1000000:=by rw [eH];omega
   by_cases hlt:j<cells.length
   . replace hown:=hown.ltR;obtain ⟨db,dof,rfl,dS,hd⟩:=hcl.get (by intro e;subst e;simp at hlt);obtain ⟨xa,xc,ry,hxr⟩:=hd j _ (bT hlt);have HX:=bU (fun w1 (h:Rows (· < w.heap.size) w1 (ints cells[j]) xa)=>J7 cells[j] (HC.out _ (cL hlt)) (· < w.heap.size) xa xc w1 h);have hnext:cells.take j++[cells[j]]=cells.take (j+1):=(dG hlt).symm;clear hd HC
     generalize cells[j]=x at *
     generalize cells.take j=ys at *
     refine eK ?_;refine Ar (fun wz=>Ext w3 wz) 5 (.pure 0 (.pure 1 (.pure 2 (.fork 3 (.fork 4 .tail .none) .none)))) mixed (by kernel_rfl) (Al (Aa (Aa (Al (Aa Ah))))) ?_;intro wc1 xc2 _;have qsc3:(fun wz=>Ext w3 wz) wc1:=xc2;simp only at qsc3;have d_hr1:=hr1;have d_hr2:=hr2;have d_hb8:=hb8;have d_hcl:=hcl;have d_ry:=ry;have d_hxr:=hxr;have d_hbq:=hbq;have d_hown:=hown;revert hr1 hr2 hb8 X hcl ry hxr hbq hown;refine eY xc2 ?_;intro zc4 hr1 hr2 hb8 X hcl ry hxr hbq hown;refine ⟨qsc3,?_⟩;refine eT ?_;refine Ax rfl (AU (by kernel_rfl) rfl (HX.out _ ‹_›) (fun _ _ h=>h.ret)) rfl ?_ (fun _ h=>h) Aw;rintro _ wc10 ⟨ac6,⟨cc7,⟨⟨⟩,⟨hc8,xc9⟩⟩⟩⟩;revert qsc3 hr1 hr2 hb8 X hcl ry hxr hbq hown;refine eY xc9 ?_;intro zc11 qsc3 hr1 hr2 hb8 X hcl ry hxr hbq hown;refine ⟨qsc3,?_⟩;refine Ax rfl (Dn [_] Ad CY rfl rfl rfl rfl rfl rfl rfl rfl rfl) rfl ?_ (fun _ h=>h) Aw;rintro _ wc14 ⟨bc13,rfl,nc15,tc16⟩;have hc17:=nc15.blk;have xc18:=nc15.ext;have pc19:=nc15.pos;have zc20:=nc15.size;revert hc8 qsc3 hr1 hr2 hb8 X hcl ry hxr hbq hown;refine eE xc18 ?_;intro hc8 qsc3 hr1 hr2 hb8 X hcl ry hxr hbq hown;refine ⟨qsc3,?_⟩;refine At rfl (Hk (R:=fun b=>w1.heap.size<=b) (sh:=Gp) (z:=x) Ad CY rfl rfl rfl rfl (by kernel_rfl) rfl rfl rfl ‹_› (fun _ h=>by exact h.1) (Blk.row ‹_›) ⟨_,_,rfl,Rows.wide ‹_› (fun b h=>by (try dsimp only at h);exact ⟨by omega,fun e=>by have:=hob _ e;omega⟩)⟩ (by omega) (by omega) rfl ?_)
     rintro gc21 cap'c22 wc23 hc24 hc25 hc26 fc27;have zc28:=fc27.size;replace hc17:=fB hc17 fc27 (fun e=>by have:=hob _ e;omega);replace hc8:=Rows.fr hc8 fc27 (fun b hb hT=>by have:=hob _ hT;(try dsimp only at hb);omega);replace hr1:=Rows.fr hr1 fc27 (fun b hb hT=>by have:=hob _ hT;(try dsimp only at hb);omega);replace hr2:=Rows.fr hr2 fc27 (fun b hb hT=>by have:=hob _ hT;(try dsimp only at hb);omega);replace hb8:=fB hb8 fc27 (fun e=>by have:=hob _ e;omega);replace X:=gE X fc27 (fun k hk=>by have:=hob _ hk;omega);replace hcl:=ICs.fr hcl fc27 (fun b hb hT=>by have:=hob _ hT;(try dsimp only at hb);omega);clear ry;replace hxr:=Rows.fr hxr fc27 (fun b hb hT=>by have:=hob _ hT;(try dsimp only at hb);omega);replace hbq:=fB hbq fc27 (fun e=>by have:=hob _ e;omega);clear hown fc27;refine C1 Pg (eV [_] [_,_,_] hbq ?_);intro wc29 hc33 fc31 zc32;clear hbq;replace hc24:=OwnQ.fr hc24 fc31 (fun k hk=>⟨fun h=>by (try dsimp only at hk h);omega,fun e=>by have:=OwnQ.ge ‹_› e;(try dsimp only at hk);omega⟩);revert hc17 hc8 hr1 hr2 hb8 X hcl hxr;refine eF fc31 ?_;intro hc17 hc8 hr1 hr2 hb8 X hcl hxr;refine Ak (Af (Ag (Aj (C1 V7 (C1 Mv (Ak ?_))))))
     exact AI (j+1) sB ⟨some ⟨_,0,none⟩,_,by omega,by rw [<-hnext];assumption,by rw [<-hnext];assumption,hr1,hr2,hb8,hcl,X,by omega⟩ (by omega)
   . obtain rfl:j=cells.length:=by omega
     rw [dB] at *
     refine eK ?_;refine eS [_,_,_] hb8 ?_;intro wd1 hd5 fd3 zd4;revert hr1 hr2 hcl X;refine eF fd3 ?_;intro hr1 hr2 hcl X;replace hown:=OwnQ.fr hown fd3 (fun k hk=>⟨fun h=>by (try dsimp only at hk h);omega,fun e=>by have:=OwnQ.ge ‹_› e;(try dsimp only at hk);omega⟩);replace hbq:=hbq.fr fd3 (by omega);refine eK ?_;refine EG rfl Ad rfl rfl rfl hd5 rfl ?_
     exact ⟨_,_,_,_,_,_,rfl,⟨hown.ltR.ics (fun b h=>⟨by omega,by omega⟩) (fun b h1 h2=>⟨by omega,h2⟩),hr1.wide (fun b h=>⟨by omega,by omega⟩),hr2.wide (fun b h=>⟨by omega,by omega⟩)⟩,X⟩
structure SV.small (s:SV):Prop where
 few:s.cells.length<=1000000
 each : ∀xs∈s.cells,xs.length<=1000000
 tin:s.tin.length<=1000000
 tout:s.tout.length<=1000000
def Mx (xs:List Int) (G:xs.length<=1000000) (S S':nP) (a F:oA) (c L:Nat) (w:wD) (h:Rows S w (ints xs) a) (M:Rows S' w (ints xs) F) :
 Calls prog 42 #[.slice a xs.length c,.slice F xs.length L] w fun e w'=>e = .returned (.bool true)/\Ext w w':=
 (Vy xs xs G G a F c L w (KC h) (KC M)).mono fun e w' ⟨N,h2⟩=>⟨by rw [N];simp,h2⟩
def Sa (l:List (List Int)) (S S':nP) (a N:oA) (c Y:Nat) (w:wD) (hl:l.length<=1000000) (hf : ∀xs∈l,xs.length<=1000000) (L:ICs S w l a) (F:ICs S' w l N) :
 Calls prog 41 #[.slice a l.length c,.slice N l.length Y,.func (.func 42) #[] #[]] w fun e w'=>e = .returned (.bool true)/\Ext w w':=by
 have X:=eU w;refine Ac func41 ntmps41 rfl rfl ?_;refine cS (C1 Pa (cT (Ai (cS (C1 Mv (C1 Pz (C1 Mv (C1 Pz (C1 V2 (cT (Ds ?_)))))))))));refine Am (Ag (Ai (cS (C1 Mv (C1 Pz (C1 Mv (cT (Av ?_))))))));have L:=L.ltA;have F:=F.ltA;refine A1 (ι:=Nat) (fun j=>[(1,.slice N l.length Y),(2,.func (.func 42) #[] #[]),(15,.slice a l.length c),(16,.int .i64 l.length),(17,.int .i64 j)])
  (fun j w'=>j<=l.length/\ICs (· < w.heap.size) w' l a/\ICs (· < w.heap.size) w' l N/\Ext w w') (fun j=>l.length-j) 0 sB ⟨cQ _,L,F,X⟩ ?_
 clear L F X;rintro j w1 ⟨hj,L,F,X⟩;by_cases G:j<l.length
 . have aa:=X.size;obtain ⟨kb,ko,rfl,kS,Z⟩:=L.get (by intro e;subst e;simp at G);obtain ⟨ab,ac,rfl,ad,M⟩:=F.get (by intro e;subst e;simp at G);obtain ⟨xa,xc,r1,v1⟩:=Z j _ (bT G);obtain ⟨O,U,r2,v2⟩:=M j _ (bT G);have p1:=hf _ (cL G);clear Z M;generalize l[j]=x at *;have HP:=bU (Mx x p1 (· < w.heap.size) (· < w.heap.size) xa O xc U ·);refine eK ?_;refine AC (Bv (fi:=[]) (ca:=[]) A9 rfl rfl (HP.out _ Ae Ae) (fun _ _ h=>⟨_,h.1⟩)) rfl ?_ aFh;rintro ae af ⟨⟨⟩,V⟩;revert X L F r1 v1 r2 v2;refine eY V ?_;intro ag X L F r1 v1 r2 v2;refine C1 Pt (cT (BD rfl (Am (Af (Ag (Aj (C1 V7 (C1 Mv (Ak ?_)))))))));exact AI (j+1) sB ⟨Ab,L,F,X⟩ Ab
 . refine eK ?_;refine xR ?_;exact ⟨rfl,X⟩
def UF (s:SV) (ac:s.small) (S S':nP) (a ta oa a' V Y:oA) (c tc oc c' aa ab:Nat) (w:wD) (hs:s.sits S w a ta oa) (ad:s.sits S' w a' V Y) :
 Calls prog 17 #[.agg (s.row a c ta tc oa oc).toArray,.agg (s.row a' c' V aa Y ab).toArray] w fun e w'=>e = .returned (.bool true)/\Ext w w':=by
 have X:=eU w;obtain ⟨cells,tin,tout⟩:=s;obtain ⟨N,O,U⟩:=hs;obtain ⟨F,G,L⟩:=ad;obtain ⟨m1,m2,m3,m4⟩:=ac;simp only at *;have HE:=bU (fun w1 h h'=>Sa cells S S' a a' c c' w1 m1 m2 h h');have HI:=bU (fun w1 h h'=>Mx tin m3 S S' ta V tc aa w1 h h');have HO:=bU (fun w1 h h'=>Mx tout m4 S S' oa Y oc ab w1 h h');change Calls prog _ #[.agg #[.slice a cells.length c,.slice ta tin.length tc,.slice oa tout.length oc],.agg #[.slice a' cells.length c',.slice V tin.length aa,.slice Y tout.length ab]] w _;refine Ac func17 ntmps17 rfl rfl ?_;refine cS (eB [_,_,_] ?_);intro b1 w2 Z x5 p6 z7;revert X N O U F G L;refine eE x5 ?_;intro X N O U F G L;refine eB [_,_,_] ?_;intro b8 w9 M ae ai aj;revert Z X N O U F G L;refine eE ae ?_;intro Z X N O U F G L;refine eK ?_;refine cC rfl (HE.out _ Ae Ae) ?_;rintro _ ak ⟨⟨⟩,af⟩;revert M Z X N O U F G L;refine eY af ?_;intro al M Z X N O U F G L;refine eK ?_;refine cC rfl (HI.out _ Ae Ae) ?_;rintro _ am ⟨⟨⟩,ag⟩;revert M Z X N O U F G L;refine eY ag ?_;intro z20 M Z X N O U F G L;refine eK ?_;refine cC rfl (HO.out _ Ae Ae) ?_;rintro _ an ⟨⟨⟩,ah⟩;revert M Z X N O U F G L;refine eY ah ?_;intro ao M Z X N O U F G L;refine eK ?_;refine xR ?_;exact ⟨rfl,X⟩
structure ResV where
 st:SV
 steps:Int
 err:Int
abbrev ResV.row (r:ResV) (a:oA) (c:Nat) (ta:oA) (tc:Nat) (oa:oA) (oc:Nat):lV:=[.slice a r.st.cells.length c,.slice ta r.st.tin.length tc,.slice oa r.st.tout.length oc,.int .i64 r.steps,.int .i64 r.err]
end Bk
namespace Bk
open Go Go.RowKit Go.Proofs
def Dl (vs:List VD) (s:SV) (j:Nat):Stp:=⟨s.cells.take j,⟨vs.take j,List.range j,0⟩,[],s.tin,s.tout⟩
def NewS (B sb:Nat) (st:Stp) (w:wD):Prop:= ∃ ρ κ,(∀k,k<B->ρ k = .none)/\StoreAt ρ κ w sb st
def aZ (B sb:Nat) (st:Stp) (w:wD):Ending->wD->Prop:=fun e w'=>e = .returned (.tuple #[])/\NewS B sb st w'/\Fr (fun k=>B<=k) w w'
def Wt {B sb:Nat} {st:Stp} {w0:wD} (h:NewS B sb st w0) (N:st.calls=[]) (hl : ∀c∈st.base.cells,c<st.heap.length) (hv:st.base.vars.length<=1000000) (hn:st.base.cells.length<=1000000) (hB:B<=sb) (ao:B<=w0.heap.size)
 (v:VD) (xs:List Int) (u:Value) (cb:Nat) (w1:wD) (X:Ext w0 w1) (ae:w0.heap.size<=cb) (hb:Blk w1 cb [u]) (hu:OwnI w1 w0.heap.size u xs) (af:u.ownBlock≠some cb) :
 Calls prog 104 #[.pointer (some ⟨sb,0,none⟩),v.val,.pointer (some ⟨cb,0,none⟩)] w1 (aZ B sb { st with base:=⟨st.base.vars++[v],st.base.cells++[st.heap.length],st.base.locals⟩,heap:=st.heap++[xs] } w1):=by
 obtain ⟨ρ,κ,h0,h⟩:=h;have U:st.cur=st.base:=by unfold Stp.cur;rw [N];rfl
 obtain ⟨fb,fo,pre,post,T,vv,vc,ag,aa,L,hf,O⟩:=h.open;obtain ⟨rfl,rfl⟩:fb=sb/\fo=0:=by
  obtain ⟨_,_,_,_,_,_,-,h2|h2⟩:=ag
  . exact h2.2
  . rw [N] at h2;exact absurd h2.1 AR
 have M:st.calls.length=0:=by rw [N];rfl
 rw [M,U] at hf;rw [U] at L;have ah:fb<w0.heap.size:=L.1.blk.lt;have ab:=hb.lt;obtain ⟨V,ai,Y,ac⟩ : ∃V,w0.heap.size<=V/\V<w1.heap.size /\ ∀k,u.ownBlock=some k->k=V:=by
  cases hu0:u.ownBlock with
  | none=>exact ⟨cb,ae,ab,fun k G=>by cases G⟩
  | some g=>exact ⟨g,(hu.lt hu0).1,(hu.lt hu0).2,fun k G=>(cD G).symm⟩
 obtain ⟨k1,k2,k3,k4,k5,k6⟩:=Qt (κ:=κ) (n:=st.heap.length) hf h.fresh ah aa (fun c N=>by have:=hl c N;omega) w1 cb V X ae ai ab Y;have aj:Win w1 fb 0 [vv,vc,.int .i64 st.base.locals] pre post T:=L.ext X;have Z:=SY (κ:=Pj κ st.heap.length cb) st.base v st.heap.length fb 0 pre post T vv vc (.int .i64 st.base.locals) w1 k1 aj k2 k3 hv hn;rw [show Ki (Pj κ st.heap.length cb) st.heap.length = .pointer (some ⟨cb,0,none⟩) by unfold Ki Pj;rw [AG rfl]] at Z;refine Z.mono ?_;rintro e w' ⟨ak,al,ρ',rfl,q1,q2,q3,q4,q5⟩;have hs:=X.size;have eo : ∀b,b<w0.heap.size->Gc ρ st.heap.length cb V b=ρ b:=fun b hb=>by unfold Gc;rw [As Ab,As Ab]
 have hr:Ro ρ ρ' w0:=fun b hb=>by rw [q1 b Ab,eo b hb]
 have F:Fr (FB ρ st.calls.length fb) w0 w':=(fE X).fr q5 (fun k G=>by rw [M];exact k4 k G);have hκ : ∀c,c≠st.heap.length->Pj κ st.heap.length cb c=κ c:=fun c N=>As N
 have h1:=O ρ' (Pj κ st.heap.length cb) w' ⟨st.base.vars++[v],st.base.cells++[st.heap.length],st.base.locals⟩ ak al hr q2 (fun f hf c am=>hκ c (by rw [N] at hf;obtain rfl:=List.mem_singleton.1 hf;have:=hl c am;omega)) (fun c N=>hκ c Ab) F q3 (by rw [M];exact q4);have an:st.setCur ⟨st.base.vars++[v],st.base.cells++[st.heap.length],st.base.locals⟩={ st with base:=⟨st.base.vars++[v],st.base.cells++[st.heap.length],st.base.locals⟩ }:=by unfold Stp.setCur;rw [AG N]
 rw [an] at h1;have ad:CellAt ρ' (Pj κ st.heap.length cb) w' st.heap.length xs:=by
  refine ⟨?_,u,?_,?_,fun k G=>?_⟩
  . rw [show Pj κ st.heap.length cb st.heap.length=cb from AG rfl,q1 cb ab];exact AG rfl
  . rw [show Pj κ st.heap.length cb st.heap.length=cb from AG rfl];exact hb.fr q5 k5
  . exact (hu.low (fun _ _=>cQ _)).fr q5 (fun k G hS=>by rw [ac k G] at hS;exact k6 hS)
  . rw [ac k G,q1 V Y];unfold Gc;rw [As (fun e=>af (by rw [G,ac k G,e])),AG rfl]
 refine ⟨rfl,⟨ρ',Pj κ st.heap.length cb,fun k G=>by rw [hr k Ab,h0 k G],h1.newCell ad⟩,q5.weaken (fun k G=>?_)⟩;rcases cO k B with h|h
 . exfalso;have e1:Gc ρ st.heap.length cb V k = .none:=by rw [eo k Ab,h0 k h]
   unfold FB at G;rw [e1] at G;rcases G with rfl|G|G
   . omega
   . cases G
   . cases G
 . exact h
attribute [local irreducible] Go.Calls
def UG (vs:List VD) (s:SV) (j:Nat) (F:j<vs.length) (h:j<s.cells.length):({ Dl vs s j with base:=⟨(Dl vs s j).base.vars++[vs[j]],(Dl vs s j).base.cells++[(Dl vs s j).heap.length],(Dl vs s j).base.locals⟩,heap:=(Dl vs s j).heap++[s.cells[j]] }:Stp)=Dl vs s (j+1):=by
 simp only [Dl,eH,Nat.min_eq_left (Nat.le_of_lt h),dG F,dG h,List.range_succ]
def CloneI (B:Nat) (xs:List Int) (w:wD):Ending->wD->Prop:=fun e w'=> ∃a c,e = .returned (.slice a xs.length c)/\OwnI w' B (.slice a xs.length c) xs/\(∀k,(cY a xs.length c).ownBlock=some k->k<w'.heap.size)/\Ext w w'
def CloneI.ret {B:Nat} {xs:List Int} {w w':wD} {e:Ending} (h:CloneI B xs w e w') : ∃v,e = .returned v:=by
 obtain ⟨_,_,h,-⟩:=h;exact ⟨_,h⟩
def Wu (xs:List Int) (G:xs.length<=1000000) (B:Nat) (S:nP) (a:oA) (c:Nat) (w:wD) (L:B<=w.heap.size) (h:Rows S w (ints xs) a):Calls prog 27 #[.slice a xs.length c] w (CloneI B xs w):=
 (FY xs G a c w (KC h)).mono fun _ _ ⟨a,c,h1,h2,h3,h4⟩=>⟨a,c,h1,h2.low (fun k F=>by have:=h3 k F;omega),fun k F=>(h3 k F).2,h4⟩
def FitsP.each {vs:List VD} {s:SV} (h:FitsP vs s) : ∀xs∈s.cells,xs.length<=1000:=fun xs G=>by
 obtain ⟨⟨U,L⟩,V,X,Y,M⟩:=h;obtain ⟨i,N,rfl⟩:=List.mem_iff_getElem.1 G;have F:=M i vs[i] s.cells[i] (bT Ab) (bT N);have O:=L vs[i] (cL _);unfold O3 KB at F;unfold O1 at O;split at F
 . exact F
 . split at F<;>omega
def FitsP.small {vs:List VD} {s:SV} (h:FitsP vs s):s.small:=
 ⟨by have:=h.1.1;have:=h.2.1;omega,fun xs F=>by have:=h.each xs F;omega,by have:=h.2.2.1;omega,by have:=h.2.2.2.1;omega⟩
def NewR (vs:List VD) (s:SV) (w:wD):Ending->wD->Prop:=fun e w'=> ∃sb,e = .returned (.tuple #[.pointer (some ⟨sb,0,none⟩),.int .i64 0])/\NewS w.heap.size sb (Dl vs s vs.length) w'/\w.heap.size<=sb/\Ext w w'
def NewR.ret {vs:List VD} {s:SV} {w w':wD} {e:Ending} (h:NewR vs s w e w') : ∃v,e = .returned v:=by
 obtain ⟨_,h,-⟩:=h;exact ⟨_,h⟩
def NewS.first {B sb tb:Nat} {w0 w1 w:wD} {vs:List VD} {s:SV} {ρ:Nat->Rl} (Y:B<=w0.heap.size) (L:w0.heap.size<=w1.heap.size) (M:Ro (fun _=>.none) ρ w0) (N:TapeAt ρ w1 tb s.tin s.tout) (X:Ext w1 w) (Z:sb=w1.heap.size) (O:w.heap.size=sb+1) (F:Blk w sb [.slice none 0 0,.slice none 0 0,.int .i64 0,.slice none 0 0,.pointer (some ⟨tb,0,none⟩)]):NewS B sb (Dl vs s 0) w:=by
 have U:Ro ρ (fun b=>if b=sb then .store else if b<sb then ρ b else .none) w1:=fun b F=>by
  simp only;rw [As Ab,AG Ab]
 have G:=(N.ro U (cH _)).ext X;refine ⟨_,fun _=>0,fun k h=>?_,⟨AG rfl,fun b F=>?_,⟨_,_,_,tb,[],F,⟨⟨?_,fun k h=>by cases h⟩,⟨?_,fun k h=>by cases h⟩⟩,⟨?_,fun k h=>by cases h⟩,?_,G⟩,fun c xs V=>?_⟩⟩
 . rw [As Ab,AG Ab];exact M k Ab
 . rw [As Ab,As Ab]
 . exact Own.nil
 . exact Own.nil
 . exact Own.nil
 . rfl
 . simp [Dl] at V
def NewS.low {B F sb:Nat} {st:Stp} {w:wD} (h:NewS B sb st w) (M:F<=B):NewS F sb st w:=by
 obtain ⟨ρ,κ,G,L⟩:=h;exact ⟨ρ,κ,fun k N=>G k Ab,L⟩
def aB (vs:List VD) (s:SV) (hf:FitsP vs s) (S:nP) (a ca ta oa:oA) (c cc tc oc:Nat) (w:wD) (L:VDs S w vs a) (hv:s.sits S w ca ta oa) :
 Calls prog 63 #[.slice a vs.length c,.agg (s.row ca cc ta tc oa oc).toArray] w (NewR vs s w):=by
 have X:=eU w;have bt:=hf.small;have hn:=hf.1.1;have ai:=hf.2.1;replace L:VDs (· < w.heap.size) w vs a:=L.lt2.wide fun _ h=>h.2
 have hv:=hv.ltA;have HF:=bU (fun w1 h1 h2=>(Ws vs Ab s (· < w.heap.size) a ca ta oa c cc tc oc w1 Ab h1 h2).mono (R':=fun e w'=>e = .returned (.bool true)/\Ext w1 w') fun e w' ⟨q,h1,h2,h3⟩=>⟨by rw [h1,h2.2 hf],h3⟩);have HT:=bU (fun w1 h1 h2=>Zh (fun _=>.none) s.tin s.tout hf.2.2.1 hf.2.2.2.1 ta oa tc oc w1 (KC (S:=(· < w.heap.size)) h1) (KC (S:=(· < w.heap.size)) h2));have Hf:=bU hf;clear hf;have U:=hv.tin;have V:=hv.tout;have F:=hv.cells;change Calls prog _ #[_,.agg #[.slice ca s.cells.length cc,.slice ta s.tin.length tc,.slice oa s.tout.length oc]] w _;refine Ac func63 ntmps63 rfl rfl ?_;refine cS (eB [_,_,_] ?_);intro b1 w2 N x5 p6 z7;revert X L hv U V F;refine eE x5 ?_;intro X L hv U V F;refine eK ?_;refine cC rfl (HF.out _ Ae Ae) ?_;rintro _ w9 ⟨⟨⟩,x8⟩;revert N X L hv U V F;refine eY x8 ?_;intro bu N X L hv U V F;refine eK ?_;refine eQ rfl (HT.out _ Ae Ae) ?_;rintro _ au ⟨ba,⟨bb,⟨⟨⟩,⟨av,⟨bv,⟨aw,ax⟩⟩⟩⟩⟩⟩;revert N X L hv U V F;refine eY ax ?_;intro ay N X L hv U V F;refine C1 Mv (C1 Px (C1 Px (C1 Pa (C1 Pa (cT (Ai (cS (C1 Mv (C1 V2 (cT (Np ?_)))))))))));refine Am (Ag ?_);have aj:=bU aw;have Y:=eU au;refine eK ?_;refine C1 (xB [_,_,_,_,_]) (eB [_,_,_,_,_] ?_);intro ac az ak a0 a1 a2;revert N X L hv U V F Y;refine eE a0 ?_;intro N X L hv U V F Y;refine C1 Pa (cT (Ai (cS (C1 Mv (C1 Pz (C1 Mv (cT ?_)))))))
 have hN:NewS (b1+1) ac (Dl vs s 0) az:=NewS.first Ab ay av aj.out Y a1 a2 ak;have a3:b1+1<=ac:=by omega
 clear Y ak aj HF HT U V hv;refine Av ?_;refine A1 (ι:=Nat) (fun j=>[(3,.pointer (some ⟨b1,0,none⟩)),(8,.pointer (some ⟨ac,0,none⟩)),(28,.slice a vs.length c),(29,.int .i64 vs.length),(30,.int .i64 j)])
  (fun j w'=>j<=vs.length/\NewS (b1+1) ac (Dl vs s j) w'/\Blk w' b1 [.slice ca s.cells.length cc,.slice ta s.tin.length tc,.slice oa s.tout.length oc]/\VDs (· < w.heap.size) w' vs a/\ICs (· < w.heap.size) w' s.cells ca/\Ext w w'/\b1+1<=w'.heap.size) (fun j=>vs.length-j) 0 sB ⟨cQ _,hN,N,L,F,X,Ab⟩ ?_
 clear hN N L F X;rintro j w3 ⟨hj,hN,N,L,F,X,hz⟩;by_cases al:j<vs.length
 . obtain ⟨kb,ko,rfl,kS,hk⟩:=Arr.get L Ab;obtain ⟨db,bw,rfl,dS,hd⟩:=F.get (by intro e;rw [e] at ai;simp at ai;omega);have Z:=hk j _ (bT al);obtain ⟨xa,xc,ry,M⟩:=hd j _ (bT Ab);have bx:=Hf.out.each s.cells[j] (cL _);have g1 : ∀c∈(Dl vs s j).base.cells,c<(Dl vs s j).heap.length:=fun c hc=>by simp only [Dl,List.mem_range,eH] at hc ⊢;omega
   have g2:(Dl vs s j).base.vars.length<=1000000:=by simp only [Dl,eH];omega
   have g3:(Dl vs s j).base.cells.length<=1000000:=by simp only [Dl,List.length_range];omega
   have HA:=bU (Wt hN rfl g1 g2 g3 a3 hz vs[j] s.cells[j]);have ab:=UG vs s j al Ab;rw [ab] at HA;clear hk hd ab hN;generalize vs[j]=x at *;generalize s.cells[j]=xs at *;have HX:=bU (fun w1 hB (h:Rows (· < w.heap.size) w1 (ints xs) xa)=>Wu xs Ab w3.heap.size (· < w.heap.size) xa xc w1 hB h);obtain ⟨xn,xk,xl⟩:=x;replace Z:Row w3 ⟨kb,ko+j*3,none⟩ [str xn,.int .u8 xk,.int .i64 xl]:=Z;unfold VD.val at HA;dsimp only at HA;have a4:=bU (fun (u:Value) (cb:Nat) (w1:wD) (X:Ext w3 w1) (a5:w3.heap.size<=cb) (hb:Blk w1 cb [u]) (hu:OwnI w1 w3.heap.size u xs) (b2:Nat) (h1 : ∀k,u.ownBlock=some k->k<b2) (h2:b2<=cb)=>HA.out u cb w1 X a5 hb hu (fun e=>by have:=h1 _ e;omega));clear HA;have Y:=eU w3;refine eK ?_;refine eA [_,_,_] ?_;intro bz b0 a6 a7 b3 b4;revert X L N F ry M Z Y;refine eE a7 ?_;intro X L N F ry M Z Y;refine C1 Pa (eS [_,_,_] a6 ?_);intro am O an bc;revert X L N F ry M Z Y;refine eF an ?_;intro X L N F ry M Z Y;refine cT (Ar (fun wz=>Ext am wz) 12 (.pure 0 (.pure 1 (.pure 2 (.pure 3 (.pure 4 (.pure 5 (.pure 6 (.pure 7 (.pure 8 (.fork 9 (.pure 10 (.fork 11 .tail .none)) .none)))))))))) mixed A9 (Al (Aa (Aa (Al (Aa Ah))))) ?_);intro ao ae _;have G:(fun wz=>Ext am wz) ao:=ae;simp only at G;have ad:=O;have bd:=L;have be:=N;have a8:=F;have ap:=ry;have a9:=M;have bf:=Z;revert O X L N F ry M Z Y;refine eY ae ?_;intro bg O X L N F ry M Z Y;refine ⟨G,?_⟩;refine eT ?_;refine Tq rfl (xL [_,_,_] (fun wz hz=>(fH ad hz))) ?_;refine eT ?_;refine Tq rfl (An Ad rfl rfl rfl (fun wz hz=>fV (Row.ext ap hz) rfl)) ?_;refine tC rfl rfl (HX.out _ Ab Ae) ?_;rintro _ bh ⟨bi,⟨bj,⟨⟨⟩,⟨af,⟨bk,ag⟩⟩⟩⟩⟩;have bl:=ag.size;revert G O X L N F ry M Z Y;refine eE ag ?_
   intro G O X L N F ry M Z Y;refine ⟨G,?_⟩;refine Tq rfl (xB [_]) ?_;refine Ax rfl (Hv rfl rfl) rfl ?_ aFh Aw;rintro _ bm ⟨bn,rfl,aa⟩;have bo:=aa.blk;have aq:=aa.ext;have bp:=aa.pos;have bq:=aa.size;revert af G O X L N F ry M Z Y;refine eE aq ?_;intro af G O X L N F ry M Z Y;refine ⟨G,?_⟩;refine At rfl (cC rfl (a4.out _ _ _ Ae Ab Ae Ae _ Ae Ab) ?_);rintro _ br ⟨⟨⟩,⟨ar,ah⟩⟩;have bs:=ah.size;revert X L N F ry M Z;refine eF ah ?_;intro X L N F ry M Z;refine Ak (Af (Ag (Aj (C1 V7 (C1 Mv (Ak ?_))))));exact AI (j+1) sB ⟨Ab,ar,N,L,F,X,Ab⟩ Ab
 . obtain rfl:j=vs.length:=by omega
   refine eK ?_;refine xT ?_;exact ⟨_,rfl,hN.low Ab,Ab,X⟩
def Stp.sv (st:Stp):SV:=⟨(st.base.cells.take (st.base.cells.length-st.base.locals)).map st.items,st.tin,st.tout⟩
def Gy (l:List (List Int)) (j:Nat):List (List Int):=l.take j++dJ (l.length-j) []
def Sb (l:List (List Int)) (j:Nat) (h:j<=l.length):(Gy l j).length=l.length:=by simp [Gy];omega
def Sd (l:List (List Int)) (j:Nat) (h:j<l.length):(Gy l j).set j l[j]=Gy l (j+1):=by
 unfold Gy;have F:(l.take j).length=j:=by simp;omega
 have G:(dJ (l.length-j) ([]:List Int))=[]::dJ (l.length-(j+1)) []:=by
  rw [show l.length-j=(l.length-(j+1))+1 by omega,List.replicate_succ]
 rw [List.set_append_right _ _ Ab,F,Nat.sub_self,G,List.set_cons_zero,dG h,dP];rfl
def Se (l:List (List Int)):Gy l l.length=l:=by simp [Gy]
def ArrS.ics {C D g:Nat} {w:wD} {xs:List (List Int)} (h:ArrS Gp C D w g xs) {S:nP} (G:S g) (L : ∀b,C<=b->b<D->S b):ICs S w xs (some ⟨g,0,none⟩):=
 bX ⟨g,0,rfl,G,fun i x M=>by
  obtain ⟨cs,N,a,c,rfl,O⟩:=h.row M;exact ⟨a,c,N,O.wide (fun b F=>L b F.1 F.2)⟩⟩
section
variable {ρ:Nat->Rl} {κ:Nat->Nat} {K:List (Int×Int)} {m sb:Nat} {st:Stp} {w:wD}
def ZD {tb:Nat} {ti to:List Int} (w:wD) (h:TapeAt ρ w tb ti to):Calls prog 109 #[.pointer (some ⟨tb,0,none⟩)] w (CloneS ti w):=
 (ZX ρ tb ti to w h).mono fun _ _ ⟨a,c,h1,h2,h3,h4⟩=>⟨a,c,h1,h2.rowsI h3,h4⟩
def Yq {tb:Nat} {ti to:List Int} (w:wD) (h:TapeAt ρ w tb ti to):Calls prog 110 #[.pointer (some ⟨tb,0,none⟩)] w (CloneS to w):=
 (Zg ρ tb ti to w h).mono fun _ _ ⟨a,c,h1,h2,h3,h4⟩=>⟨a,c,h1,h2.rowsI h3,h4⟩
def Stp.WF.items_le (F:st.WF K m) (c:Nat):(st.items c).length<=1000000:=by
 rcases cO c K.length with h|h
 . exact (F.cell c _ (bT h)).le
 . unfold Stp.items;rw [cB,cI (by rw [F.len];exact h)];exact cQ _
def StoreAt.read (h:StoreAt ρ κ w sb st) (M : ∀c∈st.base.cells,c<st.heap.length) : ∃G ca cc L tb,Blk w sb [G,.slice ca st.base.cells.length cc,.int .i64 st.base.locals,L,.pointer (some ⟨tb,0,none⟩)]/\TapeAt ρ w tb st.tin st.tout /\
 (st.base.cells≠[] -> ∃g,ca=some ⟨g,0,none⟩/\g<w.heap.size /\ ∀i c,st.base.cells[i]? = some c -> ∃a e,Row w ⟨g,0+i*1,none⟩ [.pointer (some ⟨κ c,0,none⟩)]/\Blk w (κ c) [.slice a (st.items c).length e]/\Rows (· < w.heap.size) w (ints (st.items c)) a):=by
 obtain ⟨h1,-,⟨G,bc,L,tb,cs,O,U,h4,h5,V⟩,h7⟩:=h;rcases U.c.1.row with ⟨rfl,X,-⟩|⟨g,cap,rfl,-,-,hr⟩
 . refine ⟨G,none,0,L,tb,by rw [X];exact O,V,fun F=>absurd (List.length_eq_zero_iff.1 X) F⟩
 . refine ⟨G,_,_,L,tb,O,V,fun F=>⟨g,rfl,(U.c.1.blk (k:=g) rfl).2,fun i c Y=>?_⟩⟩;have hc:=M c (dL Y);obtain ⟨-,v,k1,Z⟩:=h7 c (st.items c) (by unfold Stp.items;rw [cB,bT hc];rfl);obtain ⟨a,e,rfl⟩:=Z.1.shape;refine ⟨a,e,fun j v N=>?_,k1,(Z.1.rowsI (S:=fun _=>True) (fun _ _=>trivial)).ltA⟩;cases j with
   | zero=>
    simp only [dF,cE] at N;subst N;have:=hr.at (i:=i) (v:=Ki κ c) (by rw [dZ,Y];rfl);rw [Nat.mul_one,show (⟨g,0+i,none⟩:Addr).add 0=⟨g,0+i,none⟩ by simp [eG]];simpa using this
   | succ j=>simp at N
def Yr (hw:st.WF K m) (hm:m<=1000000) (w:wD) (h:StoreAt ρ κ w sb st):Calls prog 67 #[.pointer (some ⟨sb,0,none⟩)] w (SvR st.sv w):=by
 have X:=eU w;have H:=bU h;have ai : ∀c∈st.base.cells,c<st.heap.length:=fun c hc=>hw.cells_lt AR hc
 have be:st.base.cells.length<=1000000:=by have:=hw.base.len;have:=hw.vb _ (List.mem_cons_self ..);omega
 have a2:st.base.locals<=st.base.cells.length:=by have:=hw.base.len;have:=hw.base.loc;omega
 have al : ∀c,(st.items c).length<=1000000:=hw.items_le;obtain ⟨bv,ca,cc,cv,tb,O,U,hr⟩:=h.read ai;clear h;refine Ac func67 ntmps67 rfl rfl ?_;refine cS (eA [_,_,_] ?_);intro b1 w2 G x6 p7 z8;revert X O U;refine eE x6 ?_;intro X O U;refine eK ?_;refine C1 (A2 Ad rfl rfl) ?_;refine eK ?_;refine Ar (fun wz=>Ext w2 wz) 11 (.pure 0 (.pure 1 (.pure 2 (.pure 3 (.pure 4 (.pure 5 (.pure 6 (.pure 7 (.pure 8 (.pure 9 (.pure 10 .tail))))))))))) mixed A9 (Aa Ah) ?_;intro w9 am _;have ae:(fun wz=>Ext w2 wz) w9:=am;simp only at ae;have an:=G;have Y:=O;have ao:=U;revert G X O U;refine eY am ?_;intro bf G X O U;refine ⟨ae,?_⟩;refine Tq rfl Mv (Tq rfl Pn (Tq rfl Pg (Tq rfl Pf (Tq rfl (Db Y) (Tq rfl Pz (Tq rfl Mv (Tq rfl Pn (Tq rfl Pg (Tq rfl Pf (Tq rfl (Db Y) ?_))))))))));refine At rfl (C1 (Bq rfl rfl (dA _ Ab)) (C1 Pa (cT ?_)));obtain ⟨M,hM⟩ : ∃M,M=st.base.cells.length-st.base.locals:=⟨_,rfl⟩;rw [show ((st.base.cells.length:Int)-(st.base.locals:Int))=(M:Int) by omega];obtain ⟨L,hL⟩ : ∃L,L=st.sv.cells:=⟨_,rfl⟩
 have aj:L.length=M:=by rw [hL,hM];simp [Stp.sv]
 clear O U hr;refine eK ?_;refine AC (FH (sh:=Gp) (C:=w9.heap.size+1) (D:=w9.heap.size+1) (N:=M) (z:=[]) Ad CY rfl rfl rfl rfl A9 rfl rfl Ab (fun _ _=>⟨none,0,rfl,bW rfl⟩)) rfl ?_ aFh;rintro _ bg ⟨ac,⟨rfl,⟨ak,⟨bh,⟨bi,ax⟩⟩⟩⟩⟩;revert G X;refine eY ax ?_;intro bj G X;refine C1 Pa (cT (Ai (cS (C1 Mv (C1 Pz (C1 Mv (cT ?_)))))));have e0:dJ M []=Gy L 0:=by simp [Gy,aj]
 rw [e0] at ak;refine Av ?_;refine A1 (ι:=Nat) (fun j=>[(0,.pointer (some ⟨sb,0,none⟩)),(2,.pointer (some ⟨b1,0,none⟩)),(4,.slice (some ⟨ac,0,none⟩) M M),(24,.int .i64 M),(25,.int .i64 j)])
  (fun j w'=>j<=M/\ArrS Gp (w9.heap.size+1) w'.heap.size w' ac (Gy L j)/\Blk w' b1 [.slice none 0 0,.slice none 0 0,.slice none 0 0]/\Ext w w'/\w9.heap.size+1<=w'.heap.size) (fun j=>M-j) 0 sB ⟨cQ _,ak.wide Ab,G,X,Ab⟩ ?_
 clear ak G X e0;rintro j w3 ⟨hj,V,G,X,hz⟩;obtain ⟨bv,ca,cc,cv,tb,O,U,hr⟩:=(H.out.ext X).read ai;by_cases a3:j<M
 . obtain ⟨g,rfl,bk,af⟩:=hr (by intro e;rw [e] at hM;simp at hM;omega);obtain ⟨a,e,r1,r2,r3⟩:=af j st.base.cells[j] (bT Ab);have ap:L[j]=st.items st.base.cells[j]:=by simp [hL,Stp.sv]
   have Z:=Sd L j Ab;have bl:=Sb L j Ab;have HX:=bU (J7 (st.items st.base.cells[j]) (al _) (· < w3.heap.size) a e);rw [ap] at Z;clear af hr ap ai al;generalize st.base.cells[j]=c at *;generalize st.items c=x at *;refine eK ?_;refine eQ rfl (HX.out _ Ae) ?_;rintro _ bm ⟨bn,⟨bo,⟨⟨⟩,⟨aq,ay⟩⟩⟩⟩;revert V G X U O r1 r2 r3;refine eY ay ?_;intro bp V G X U O r1 r2 r3;refine C1 Pi (Br (Gl (sh:=Gp) (j:=j) (z:=x) (us:=[_]) Ad rfl rfl rfl rfl rfl rfl Ae Ab Ab Ab ⟨_,_,rfl,Rows.wide Ae (fun b h=>by omega)⟩) (Cg ?_));rintro _ a4 ⟨az,⟨ad,bq⟩⟩;have a5:=ad.size;have aq:=aq.fr ad Ab;clear V;revert G X;refine eF ad ?_;intro G X;clear U O r1 r2 r3 ad;refine Ak (Af (Ag (Aj (C1 V7 (C1 Mv (Ak ?_))))));exact AI (j+1) sB ⟨Ab,by rw [<-Z];exact az.wide Ab,G,X,Ab⟩ Ab
 . obtain rfl:j=M:=by omega
   rw [<-aj,Se] at V;clear hr;have HI:=bU (fun w1 h=>ZD (ρ:=ρ) (tb:=tb) (ti:=st.tin) (to:=st.tout) w1 h);have HO:=bU (fun w1 h=>Yq (ρ:=ρ) (tb:=tb) (ti:=st.tin) (to:=st.tout) w1 h);refine eK ?_;refine Ar (fun wz=>Ext w3 wz) 11 (.pure 0 (.pure 1 (.pure 2 (.pure 3 (.pure 4 (.pure 6 (.pure 7 (.pure 8 (.pure 9 (.fork 5 (.fork 10 .tail .none) .none)))))))))) mixed A9 (Aa Ah) ?_;intro a0 ar _;have F:(fun wz=>Ext w3 wz) a0:=ar;simp only at F;have a6:=V;have an:=G;have Y:=O;have ao:=U;revert V G X O U;refine eY ar ?_;intro br V G X O U;refine ⟨F,?_⟩;refine eT ?_;refine tC rfl rfl (HI.out _ Ae) ?_;rintro _ a7 ⟨au,⟨bs,⟨⟨⟩,⟨aa,a1⟩⟩⟩⟩;revert F V G X O U;refine eY a1 ?_;intro a8 F V G X O U;refine ⟨F,?_⟩;refine tC rfl rfl (HO.out _ Ae) ?_;rintro _ a9 ⟨ag,⟨ba,⟨⟨⟩,⟨ab,av⟩⟩⟩⟩;revert aa F V G X O U;refine eY av ?_;intro bb aa F V G X O U;refine ⟨F,?_⟩;refine At rfl (C1 (xB [_,_,_]) (eS [_,_,_] G ?_));intro bc aw ah bd;revert ab aa V X;refine eF ah ?_;intro ab aa V X;clear O U ah;refine eK ?_;refine xC aw ?_;exact ⟨some ⟨ac,0,none⟩,j,au,_,ag,_,(by show _=Ending.returned (.agg #[.slice (some ⟨ac,0,none⟩) st.sv.cells.length j,.slice au st.tin.length _,.slice ag st.tout.length _]);rw [<-hL,aj]),⟨by rw [<-hL];exact V.ics ⟨Ab,Ab⟩ (fun b h1 h2=>⟨Ab,Ab⟩),aa.wide (fun b h=>⟨Ab,Ab⟩),ab.wide (fun b h=>⟨Ab,Ab⟩)⟩,X⟩
end
def O4 (v:VD):v.cells.length=3:=rfl
def ZE (v:VD):v.cells.all fP=true:=rfl
def QN {S:nP} {w:wD} {l:List VD} {a:oA} (h:VDs S w l a):Rows S w (l.flatMap VD.cells) a:=by
 rcases h with h|⟨b,o,F,G,L⟩
 . subst h;exact bW rfl
 . exact bX ⟨b,o,F,G,Nw O4 l o (fun i x M=>L i x M)⟩
def My {S:nP} {w:wD} {l:List VD} {a:oA} (h:Rows S w (l.flatMap VD.cells) a):VDs S w l a:=by
 cases l with
 | nil=>exact bW rfl
 | cons v r=>
  rcases h with h|⟨b,o,F,G,L⟩
  . simp at h
  . exact bX ⟨b,o,F,G,fun i x M=>Nx O4 (v::r) o L i x M⟩
def VCopyR (l:List VD) (w:wD):Ending->wD->Prop:=fun e w'=> ∃a c,e = .returned (.slice a l.length c)/\VDs (fun b=>w.heap.size<=b/\b<w'.heap.size) w' l a/\Ext w w'/\l.length<=c
def VCopyR.ret {l:List VD} {w:wD} {e:Ending} {w':wD} (h:VCopyR l w e w') : ∃v,e = .returned v:=by
 obtain ⟨_,_,h,-⟩:=h;exact ⟨_,h⟩
def Sf {w w':wD} (X:Ext w w'):VCopyR [] w (.returned (.slice none 0 0)) w':=⟨none,0,rfl,bW rfl,X,cH _⟩
def Sg {l:List VD} {e B g cap m:Nat} {w w':wD} (F:0+l.length=m) (h:OwnF e 3 B w' g cap m ([]++l.flatMap VD.cells)) (G:w.heap.size<=g) (X:Ext w w'):VCopyR l w (.returned (.slice (some ⟨g,0,none⟩) m cap)) w':=by
 have L:=h.lt;subst F;exact ⟨some ⟨g,0,none⟩,cap,by rw [eJ],My (h.rows ⟨G,L⟩),X,by have:=h.le;omega⟩
def N0 (l:List VD) (hl:l.length<=1000000000) (S:nP) (a:oA) (c:Nat) (w:wD) (G:VDs S w l a) :
 Calls prog 61 #[.slice a l.length c] w (VCopyR l w):=by
 have X:=eU w;have hd:=H7 O4 l;have ho:=KN ZE l;cases a with
 | none=>
  have h0:l=[]:=by
   rcases G with h|⟨b,o,h,-⟩
   . exact h
   . cases h
  subst h0;refine Ac func61 ntmps61 rfl rfl ?_;refine eK ?_;refine C1 (LH Ad rfl rfl) ?_;refine eK ?_;refine xR ?_;exact Sf X
 | some p=>
  have G:=(QN G).ltA;refine Ac func61 ntmps61 rfl rfl ?_;refine eK ?_;refine C1 (LJ Ad rfl rfl) ?_;refine eK ?_;refine AC (JK (B:=w.heap.size) Ad rfl rfl Ab) rfl ?_ aFh;rintro _ aa ⟨ab,⟨rfl,⟨ac,⟨ad,⟨ae,M⟩⟩⟩⟩⟩;revert X G;refine eY M ?_;intro af X G;refine C1 Mv ?_;refine AC (JL Ad CY rfl rfl rfl rfl A9 rfl rfl rfl Ae Ae hd ho Ab) rfl ?_ aFh;rintro _ N ⟨O,⟨L,⟨rfl,⟨U,⟨V,⟨Y,F⟩⟩⟩⟩⟩⟩;have Z:=F.size;revert X G;refine eF F ?_;intro X G;refine eK ?_;refine xR ?_;exact Sg rfl Ae Ab X
mutual
def Nd.walk:Nd->List Nd
 | .mk k n s l=>.mk k n s l::BX l
def BX:List Nd->List Nd
 | []=>[]
 | t::r=>t.walk++BX r
end
def Il : ∀l m:List Nd,BX (l++m)=BX l++BX m
 | [],m=>by simp [BX]
 | t::r,m=>by simp only [List.cons_append,BX,Il r m,dP]
def Ka {l:List Nd} {j:Nat} (h:j<l.length):BX (l.take (j+1))=BX (l.take j)++l[j].walk:=by
 rw [dG h,Il,BX,BX,List.append_nil]
def QO {l:List Nd} {j:Nat} (h:j<l.length):BX (l.take j)++l[j].walk <+: BX l:=by
 rw [<-Ka h];exact ⟨BX (l.drop (j+1)),by rw [<-Il,List.take_append_drop]⟩
def Ys (b0:Nat) (W:wD) (vs:lV) (t:Nd):Prop:= ∃pa pn pc a c,vs=[.slice pa pn pc,t.val a c]/\t.sits (fun b=>b0<=b) W a/\t.kids.length<=c
def SliceR (n:Nat) (w:wD):Ending->wD->Prop:=fun e w'=> ∃a c,e = .returned (.slice a n c)/\Ext w w'
def SliceR.ret {n:Nat} {w:wD} {e:Ending} {w':wD} (h:SliceR n w e w') : ∃v,e = .returned v:=by
 obtain ⟨_,_,h,-⟩:=h;exact ⟨_,h⟩
def Sh {cs:lV} {e B g cap m k:Nat} {w w':wD} (h:0+k=m) (_:OwnF e 1 B w' g cap m ([]++cs)) (X:Ext w w'):SliceR k w (.returned (.slice (some ⟨g,0,none⟩) m cap)) w':=⟨_,_,by rw [<-h,eJ],X⟩
def KZ (cs:lV) (n:Nat) (L:cs.length=n*1) (M:cs.all fP=true) (hl:n<=1000000000) (S:nP) (p:Addr) (c:Nat) (w:wD) (h:Rows S w cs (some p)) :
 Calls prog 27 #[.slice (some p) n c] w (SliceR n w):=by
 have X:=eU w;have h:=h.ltA;refine Ac func27 ntmps27 rfl rfl ?_;refine eK ?_;refine C1 (LJ Ad rfl rfl) ?_;refine eK ?_;refine AC (JK (B:=w.heap.size) Ad rfl rfl Ab) rfl ?_ aFh;rintro _ w6 ⟨g1,⟨rfl,⟨h2,⟨h3,⟨h4,N⟩⟩⟩⟩⟩;revert X h;refine eY N ?_;intro z7 X h;refine C1 Mv ?_;refine AC (JL Ad CY rfl rfl rfl rfl A9 rfl rfl rfl Ae Ae L M Ab) rfl ?_ aFh;rintro _ O ⟨U,⟨G,⟨rfl,⟨V,⟨Y,⟨Z,F⟩⟩⟩⟩⟩⟩;have aa:=F.size;revert X h;refine eF F ?_;intro X h;refine eK ?_;refine xR ?_;exact Sh rfl Ae X
def K0 (w:wD):Calls prog 27 #[.slice none 0 0] w (SliceR 0 w):=by
 have X:=eU w;refine Ac func27 ntmps27 rfl rfl ?_;refine eK ?_;refine C1 (LH Ad rfl rfl) ?_;refine eK ?_;refine xR ?_;exact ⟨_,_,rfl,X⟩
def QP {w:wD} {b e n:Nat} {v:Value} {cs:lV} (h:Own w b e 1 v n cs) (F:cs.all fP=true) (G:n<=1000000000):Calls prog 27 #[v] w (SliceR n w):=by
 rcases h.row with ⟨rfl,rfl,rfl⟩|⟨g,cap,rfl,M,-,L⟩
 . exact K0 w
 . exact KZ cs n h.1 F G (fun _=>True) _ _ w (bX ⟨g,0,rfl,trivial,L⟩)
section
variable {P:Program} {n:Nat} {l:Sl} {S:wD->Prop} {tab:Tab} {zt:EV} {ty:TypeId} {w:wD} {ops:Array Oper} {Q:Exit->Act->wD->Prop} {rest:List Oper} {d:Nat} {pos:String} {after:Array Edge}
def Si {x y:Operand} {t e L B m cap:Nat} {V:Sk} {zs:lV} {v u:Value} {cs:lV} {p:Addr} (T:TabOk P tab) (Z:CN P zt) (X:Az tab t=some (.slice e,L)) (Y:Az tab e=some (V,1)) (hz:Da zt e=some zs) (M:zs.length=1)
 (N:DM P e=true) (hx:ev l x=some v) (hy:ev l y=some (.slice (some p) 1 cap)) (G:Own w B e 1 v m cs) (hr:Row w p [u]) (h1:fP u=true) (O:m<=10000000000) (hB:B<=w.heap.size) (hd:cV d n=true)
 (k : ∀g F w1,Own w1 B e 1 (.slice (some ⟨g,0,none⟩) (m+1) F) (m+1) (cs++[u])->(v.ownBlock=some g\/w.heap.size<=g)->g<w1.heap.size->Fr (fun k=>v.ownBlock=some k) w w1->LW P n ops Q rest ((d,.slice (some ⟨g,0,none⟩) (m+1) F)::l) w1) :
 LW P n ops Q (⟨some d,.call ⟨.builtin .append,#[x,y],#[t,t]⟩,ty,pos,after,none⟩::rest) l w:=by
 refine AC (Eo T Z X Y hz M N rfl hx hy G hr rfl (by simp [h1]) Ab Ab hB) hd (fun v w1 h=>?_) aFh;obtain ⟨U,g2,g,F,g3,g4⟩:=h;subst g3;exact k g F w1 U g4 (U.blk (k:=g) rfl).2 g2
end
def Own.below {w:wD} {b e sz n:Nat} {v:Value} {cs:lV} (h:Own w b e sz v n cs) (F:Nat) (L : ∀k,v.ownBlock=some k->F<=k):Own w F e sz v n cs:=by
 obtain ⟨G,M|⟨g,cap,cur,rfl,O,N⟩⟩:=h
 . exact ⟨G,bW M⟩
 . exact ⟨G,bX ⟨g,cap,cur,rfl,L g rfl,N⟩⟩
def Own.shrink {w:wD} {b e sz n m:Nat} {p:Addr} {cap:Nat} {cs:lV} (h:Own w b e sz (.slice (some p) n cap) n cs) (O:m<=n):Own w b e sz (.slice (some p) m cap) m (cs.take (m*sz)):=by
 have F:m*sz<=n*sz:=Nat.mul_le_mul_right _ O;obtain ⟨G,⟨U,-⟩|⟨g,L,cur,M,V,X,hc,Y,Z,N⟩⟩:=h
 . simp at U
 . simp only [dI,cE] at M;obtain ⟨rfl,-,rfl⟩:=M;refine ⟨by rw [eH,G];omega,bX ⟨g,cap,cur,rfl,V,X,Ab,Y,Z,?_⟩⟩;rw [<-N,List.take_take,Nat.min_eq_left];rw [<-G,<-N,eH] at F;omega
structure VSt (y c bY bP bV:Nat) (A:nP) (W:wD) (pv:Value) (d:Nat):Prop where
 y0:Blk W bY [.func (.yield y) #[] #[]]
 p0:Blk W bP [pv]
 v0:Blk W bV [.func (.func 137) #[] #[.pointer (some ⟨bY,0,none⟩),.pointer (some ⟨bP,0,none⟩),.pointer (some ⟨bV,0,none⟩)]]
 own : ∃cs:lV,cs.all fP=true/\Own W c 3 1 pv d cs
 a0:A bY
 a1:A bP
 a2:A bV
 ap : ∀g,pv.ownBlock=some g->A g/\g≠bY/\g≠bP/\g≠bV
 ne:bY≠bP/\bV≠bP
 lt : ∀k,A k->c<=k/\k<W.heap.size
def ZQ (Rt A:nP) (bP:Nat) (pv:Value):nP:=fun k=>Rt k\/(A k/\k≠bP/\pv.ownBlock≠some k)
def bA (y c bY bP bV:Nat) (Rt:nP) (J Jx:(nP)->List Nd->wD->Prop) (S:List Nd) (A:nP) (xs:List Nd) (W:wD) (pv:Value) (d:Nat) (q:Bool) (W':wD):Prop:=
 ∃A':nP,(∀k,A k->A' k)/\(∀k,A' k->c<=k) /\
  ((q=true /\ ∃pv',VSt y c bY bP bV A' W' pv' d/\J A' xs W'/\(∀g,pv'.ownBlock=some g->pv.ownBlock=some g\/W.heap.size<=g)/\Keeps (ZQ Rt A bP pv) W W')\/(q=false /\ ∃pre,pre <+: S/\Jx A' pre W'))
def VEnd (y c bY bP bV:Nat) (Rt:nP) (J Jx:(nP)->List Nd->wD->Prop) (S:List Nd) (A:nP) (xs:List Nd) (W:wD) (pv:Value) (d:Nat):Ending->wD->Prop:=fun e W'=>
 ∃q,e = .returned (.bool q)/\bA y c bY bP bV Rt J Jx S A xs W pv d q W'
def VEnd.ret {y c F G L:Nat} {M:nP} {J Jx:(nP)->List Nd->wD->Prop} {S:List Nd} {A:nP} {xs:List Nd} {W:wD} {N:Value} {d:Nat} {e:Ending} {O:wD} (h:VEnd y c F G L M J Jx S A xs W N d e O) : ∃v,e = .returned v:=by
 obtain ⟨_,h,-⟩:=h;exact ⟨_,h⟩
def Tb {y c F G L:Nat} {M:nP} {J Jx:(nP)->List Nd->wD->Prop} {S:List Nd} {A:nP} {xs:List Nd} {W:wD} {N:Value} {d:Nat} (w:wD) : ¬VEnd y c F G L M J Jx S A xs W N d .outgrown w:=fun ⟨_,h,_⟩=>by cases h
def YRes (Rt:nP) (J Jx:(nP)->List Nd->wD->Prop) (A:nP) (xs:List Nd) (W:wD):Ending->wD->Prop:=fun e W'=>
 Keeps (fun k=>A k\/Rt k) W W'/\((e = .returned (.bool true)/\J A xs W')\/(e = .returned (.bool false)/\Jx A xs W'))
def YRes.ret {F:nP} {J Jx:(nP)->List Nd->wD->Prop} {A:nP} {xs:List Nd} {W:wD} {e:Ending} {G:wD} (h:YRes F J Jx A xs W e G) : ∃v,e = .returned v:=by
 obtain ⟨-,⟨h,-⟩|⟨h,-⟩⟩:=h<;>exact ⟨_,h⟩
def Yt (y c bY bP bV:Nat) (Rt:nP) (hRt : ∀k,Rt k->k<c) (J Jx:(nP)->List Nd->wD->Prop) (hJ:Nb c J) (S:List Nd)
 (hY : ∀A pre x vs W1,(∀k,A k->c<=k/\k<W1.heap.size)->J A pre W1->Ys c W1 vs x->(pre++[x]) <+: S->YieldAt (WF none) 0 prog y vs.toArray W1 (YRes Rt J Jx A (pre++[x]) W1)) (N:Nat) :
 ∀(t:Nd) (A:nP) (pre:List Nd) (a:oA) (ca:Nat) (W:wD) (pv:Value) (d:Nat),t.size<N->t.size<=1000000->d+t.size<=2000000->t.sits Rt W a->VSt y c bY bP bV A W pv d->J A pre W->(pre++t.walk) <+: S ->
  Calls prog 137 #[t.val a ca,.pointer (some ⟨bY,0,none⟩),.pointer (some ⟨bP,0,none⟩),.pointer (some ⟨bV,0,none⟩)] W (VEnd y c bY bP bV Rt J Jx S A (pre++t.walk) W pv d):=by
 induction N with
 | zero=>intro t A pre a ca W pv d h;omega
 | succ N ih=>
  rintro ⟨k,n,s,l⟩ A pre a ca W pv d hN hM hd hs hV hJ0 hpre;have hz:(Nd.mk k n s l).size=1+Aq l:=by rw [Nd.size]
  have hlen:=C0 l;rw [hz] at hN hd;have hT:=bU (SP (.mk k n s l) hM);rw [hz] at hM;obtain ⟨y0,p0,v0,⟨cs,Z,hown⟩,a0,a1,a2,ap,ne,hlt⟩:=hV;have l0:=hlt _ a0;have l1:=hlt _ a1;have l2:=hlt _ a2;have HP:=bU hpre;have HS:=bU hs;have HJ:=bU hJ0;have HAp:=bU ap;have HL:=bU hlt;have IH:=bU ih;have HY:=bU hY;have HJS:=bU hJ;clear ap hlt hpre hJ0 hs ih hY hJ;have X:=eU W;refine Ac func137 ntmps137 rfl rfl ?_;refine cS (eB [_,_,_,_] ?_);intro b1 w2 h4 x5 p6 z7;revert y0 p0 v0 hown X;refine eE x5 ?_;intro y0 p0 v0 hown X;refine C1 Pa (cT (Ai ?_));refine Ai (Wm (fun wz=>Ext w2 wz) 5 (.pure 0 (.pure 1 (.pure 3 (.fork 2 (.fork 4 .tail .none) .none)))) mixed A9 (Aa (Aa Ah)) (CG (CG (QJ Tb))) ?_);intro w3 x3 _;refine ⟨x3,?_⟩;refine OV rfl (An Ad rfl rfl rfl (fun wz hz=>fD (fH y0 hz) rfl)) rfl (OV rfl (An Ad rfl rfl rfl (fun wz hz=>fD (fH p0 hz) rfl)) rfl (OV rfl (Iu Ad rfl rfl rfl rfl (fun wz hz=>Blk.row (fH h4 hz))) rfl ?_));refine Ta rfl rfl (AU A9 rfl (QP (hown.ext x3) Z Ab) (fun _ _ h=>h.ret)) rfl ?_ aFh S9;rintro _ w4 ⟨pa,pc,⟨⟩,x4⟩;have L:=Ext.trans x3 x4;refine ⟨L,?_⟩;refine Ta rfl rfl (AU A9 rfl (hT.out Rt a ca w4 (gH HS.out (X.trans L))) (fun _ _ h=>h.ret)) rfl ?_ aFh S9;rintro _ w5 ⟨ta,tc,⟨⟩,ts,x5,tk⟩;have z:=Ext.trans L x5;refine ⟨z,?_⟩;refine Ym rfl ?_;have X5:=X.trans z
  obtain ⟨A5,hA5⟩ : ∃A5:nP,A5=fun k=>A k\/(W.heap.size<=k/\k<w5.heap.size):=⟨_,rfl⟩
  have hAA : ∀k,A k->A5 k:=fun k hk=>by rw [hA5];exact bW hk
  have hA4 : ∀k,A5 k->c<=k/\k<w5.heap.size:=fun k hk=>by
   rw [hA5] at hk;rcases hk with hk|hk
   . have:=HL.out k hk;have:=X5.size;omega
   . omega
  have aa:A5 b1:=by rw [hA5];have:=h4.lt;have:=z.size;exact bX ⟨Ab,Ab⟩
  have J5:J A5 pre w5:=HJS.out A _ pre W w5 HJ.out ⟨X5.os,X5.tape,X5.output,X5.size,fun k hk _=>X5.block hk⟩ (fun k hk=>(HL.out k hk).1) (fun k hk=>(hA4 k hk).1) (fun k hk h=>by rw [hA5] at h;exact h.elim id (fun h=>by omega));clear hA5;have M:pre++[Nd.mk k n s l] <+: S:=List.IsPrefix.trans ⟨BX l,by simp [Nd.walk]⟩ HP.out;refine Wn rfl rfl (HY.out _ pre (.mk k n s l) [_,_] w5 hA4 J5 ⟨pa,_,pc,ta,tc,rfl,eX ts (fun b hb=>by have:=L.size;omega),tk⟩ M) (fun _ _ h=>h.ret) rfl ?_;rintro v w6 ⟨C,af⟩;refine Z9 (CG (CG (QJ Tb))) rfl ?_;rcases af with ⟨⟨⟩,hJ6⟩|⟨⟨⟩,hJ6⟩
  case inr=>
   clear y0 p0 v0 h4 hown X;refine eK ?_;refine xR ?_;exact ⟨false,rfl,A5,hAA,fun k h=>(hA4 k h).1,bX ⟨rfl,_,M,hJ6⟩⟩
  have hK:Keeps (ZQ Rt A bP pv) W w6:=(Keeps.of_ext X5).trans (Keeps.less C (fun k hk=>hk.elim bX (fun h=>bW (hAA k h.1))));have hkA : ∀k,A5 k -> ¬ ¬(A5 k\/Rt k):=fun k h e=>e (bW h)
  have y0:=(y0.ext z).fr C (hkA _ (hAA _ a0));have p0:=(p0.ext z).fr C (hkA _ (hAA _ a1));have v0:=(v0.ext z).fr C (hkA _ (hAA _ a2));have h4:=(h4.ext z).fr C (hkA _ aa);have hown:=(hown.ext z).fr C (fun g hg=>hkA _ (hAA _ (HAp.out g hg).1));have ab:rowSits Rt w6 l a:=((E4 HS.out).ext X5).fr C (fun b hb e=>e (bX hb));have ag:=C.size;have ah:=X5.size;have hV6:VSt y c bY bP bV A5 w6 pv d:=⟨y0,p0,v0,⟨cs,Z,hown⟩,hAA _ a0,hAA _ a1,hAA _ a2,fun g hg=>⟨hAA _ (HAp.out g hg).1,(HAp.out g hg).2⟩,ne,fun k h=>⟨(hA4 k h).1,by have:=hA4 k h;omega⟩⟩;clear X hkA y0 p0 v0 hown hT HY ts x3 x4 x5 L z X5 J5 C hA4 aa;refine C1 Pt (cT (BD rfl (Am (Ag (Ai (cS (C1 Pf (C1 (Pl h4) (C1 Pz (C1 Mv (cT ?_)))))))))));refine Av ?_;refine A1 (ι:=Nat×(nP)×Value) (fun x=>[(1,.pointer (some ⟨bY,0,none⟩)),(2,.pointer (some ⟨bP,0,none⟩)),(3,.pointer (some ⟨bV,0,none⟩)),(16,.slice a l.length ca),(17,.int .i64 l.length),(18,.int .i64 x.1)])
   (fun x w'=>x.1<=l.length/\VSt y c bY bP bV x.2.1 w' x.2.2 d/\J x.2.1 (pre++[.mk k n s l]++BX (l.take x.1)) w'/\rowSits Rt w' l a/\Keeps (ZQ Rt A bP pv) W w'/\(∀g,x.2.2.ownBlock=some g->pv.ownBlock=some g\/W.heap.size<=g)/\(∀k,A k->x.2.1 k))
   (fun x=>l.length-x.1) (0,A5,pv) sB ⟨cQ _,hV6,by simpa [BX] using hJ6,ab,hK,fun g hg=>bW hg,hAA⟩ ?_
  clear hV6 hJ6 ab hK hAA h4 ag ah;rintro ⟨j,B,qv⟩ w7 ⟨hj,hV,hJ7,f,hK7,R,hAB⟩;simp only at hj hV hJ7 f hK7 R hAB;by_cases hlt:j<l.length
  . obtain ⟨y0,p0,v0,⟨ds,ai,hown⟩,a0,a1,a2,ap,-,hBl⟩:=hV;obtain ⟨kb,ko,rfl,kS,hkid⟩:=BA f (by intro e;subst e;simp at hlt);obtain ⟨xa,xc,rx,sx⟩:=hkid j l[j] (bT hlt);have hxz:=Cz (cL hlt);have hnext:=Ka hlt;have hpx:=QO hlt;have HB:=bU hBl;have HBp:=bU ap;have HR:=bU hRt;have l0:=hBl _ a0;have l1:=hBl _ a1;have l2:=hBl _ a2;have ckb:=hRt _ kS;have HJ7:=bU hJ7;have HK7:=bU hK7;have HQ7:=bU R;have hob : ∀g,qv.ownBlock=some g->c<=g/\g<w7.heap.size:=fun g hg=>hBl _ (ap g hg).1
    clear hkid hBl ap hJ7 hK7 R hRt;generalize l[j]=x at *;have X7:=fC (fun k=>k=bP\/qv.ownBlock=some k) w7;refine eK ?_;refine eA [_,_,_,_] ?_;intro aj a5 ak al a6 a7;revert y0 p0 v0 hown f rx sx X7;refine eE al ?_;intro y0 p0 v0 hown f rx sx X7;refine C1 Pa (eS [_,_,_,_] ak ?_);intro a8 o u aq;revert y0 p0 v0;refine eF u ?_;intro y0 p0 v0;have hown:=Own.fr hown u (fun g hg e=>by have:=hob _ hg;omega);have f:=fO f u (fun b hb h=>by have:=HR.out _ hb;omega);have rx:=Row.fr rx u (by simp only;omega);have sx:=eW sx u (fun b hb h=>by have:=HR.out _ hb;omega);have X7:=X7.fr u Ab;refine eK ?_;refine AC (xS [_]) rfl ?_ aFh;rintro _ ar ⟨au,rfl,G,av⟩;have w:=G.blk;dsimp only at w;have ac:=G.ext;have aw:=G.pos;have ax:=G.size;revert o y0 p0 v0 hown f rx sx X7;refine eE ac ?_;intro o y0 p0 v0 hown f rx sx X7;refine Si Ad CY rfl rfl rfl rfl A9 rfl rfl Ae (Blk.row Ae) rfl Ab Ab rfl ?_;rintro F p ay I O az i;have a3:=i.size;have w:=fB w i (fun h=>by have:=hob _ h;omega);have o:=fB o i (fun h=>by have:=hob _ h;omega);have y0:=fB y0 i (fun h=>(HBp.out _ h).2.1 rfl);have p0:=fB p0 i (fun h=>(HBp.out _ h).2.2.1 rfl);have v0:=fB v0 i (fun h=>(HBp.out _ h).2.2.2 rfl);clear hown;have f:=fO f i (fun b hb h=>by have:=hob _ h;have:=HR.out _ hb;omega);clear rx;have sx:=eW sx i (fun b hb h=>by have:=hob _ h;have:=HR.out _ hb;omega);have X7:=fJ X7 i (fun k hk=>bW (bX hk));refine eS [_] p0 ?_;intro q T r a4;have I:=Own.fr I r (fun k hk e=>by (obtain rfl:=cD (show some F=some k from hk);rcases O with h|h;exact (HBp.out _ h).2.2.1 e;omega));revert w o;refine eF r ?_;intro w o;have y0:=fB y0 r (fun h=>ne.1 h);have v0:=fB v0 r (fun h=>ne.2 h);have f:=fO f r (fun b hb h=>by have:=HR.out _ hb;omega);have sx:=eW sx r (fun b hb h=>by have:=HR.out _ hb;omega);have X7:=X7.fr r Ab;refine cT (Ai ?_)
    have hze:=X7.size;obtain ⟨D,hD⟩ : ∃D:nP,D=fun k=>B k\/(w7.heap.size<=k/\k<q.heap.size):=⟨_,rfl⟩
    have hBD : ∀k,B k->D k:=fun k hk=>by rw [hD];exact bW hk
    have hDl : ∀k,D k->c<=k/\k<q.heap.size:=fun k hk=>by
     rw [hD] at hk;rcases hk with hk|hk
     . have:=HB.out k hk;omega
     . omega
    have hown : ∀g,(cY (some ⟨F,0,none⟩) (d+1) p).ownBlock=some g->D g/\g≠bY/\g≠bP/\g≠bV/\(qv.ownBlock=some g\/w7.heap.size<=g):=fun g hg=>by
     obtain rfl:=cD (show some F=some g from hg);rcases O with h|h
     . have:=HBp.out _ h;exact ⟨hBD _ this.1,this.2.1,this.2.2.1,this.2.2.2,bW h⟩
     . exact ⟨by rw [hD];exact bX ⟨Ab,Ab⟩,Ab,Ab,Ab,bX Ab⟩
    have hV8:VSt y c bY bP bV D q (.slice (some ⟨F,0,none⟩) (d+1) p) (d+1):=⟨y0,T,v0,⟨_,by rw [List.all_append,ai];rfl,I⟩,hBD _ a0,hBD _ a1,hBD _ a2,fun g hg=>⟨(hown g hg).1,(hown g hg).2.1,(hown g hg).2.2.1,(hown g hg).2.2.2.1⟩,ne,hDl⟩;have J8:J D (pre++[Nd.mk k n s l]++BX (List.take j l)) q:=HJS.out B D _ w7 q HJ7.out (X7.weaken (fun k hk=>hk.elim (fun e=>e▸a1) (fun e=>(HBp.out _ e).1))) (fun k hk=>(HB.out k hk).1) (fun k hk=>(hDl k hk).1) (fun k hk h=>by rw [hD] at h;exact h.elim id (fun h=>by omega));have V:pre++[Nd.mk k n s l]++BX (List.take j l)++x.walk <+: S:=by
     refine List.IsPrefix.trans ?_ HP.out;rw [Nd.walk,<-List.singleton_append,dP,dP,dP];exact (List.prefix_append_right_inj _).2 ((List.prefix_append_right_inj _).2 hpx)
    have HX:=bU (IH.out x D _ xa xc q _ (d+1) Ab Ab Ab sx hV8 J8 V);have hbx:D aj:=by rw [hD];exact bX ⟨Ab,Ab⟩
    have hK8:Keeps (ZQ Rt A bP pv) W q:=HK7.out.trans (Keeps.of_fr X7 (fun k hk h=>by
     rcases hk with hk|⟨h1,h2,h3⟩
     . rcases h with h|h
       . have:=HR.out _ hk;omega
       . have:=HR.out _ hk;have:=hob _ h;omega
     . rcases h with h|h
       . exact h2 h
       . rcases HQ7.out _ h with h|h
         . exact h3 h
         . have:=HL.out _ h1;omega))
    have hWz:=HK7.out.size;clear hD J8 hV8 I O HJ7 HK7 sx X7;refine eK ?_;refine AC (Bv (fi:=[]) (ca:=[.pointer (some ⟨bY,0,none⟩),.pointer (some ⟨bP,0,none⟩),.pointer (some ⟨bV,0,none⟩)]) A9 rfl rfl HX.out (fun _ _ h=>h.ret)) rfl ?_ aFh;rintro _ ad ⟨a9,⟨⟨⟩,am⟩⟩;refine C1 Pt (cT ?_);obtain ⟨E,hDE,hEc,⟨rfl,pv',hV9,J9,ae,hK9⟩|⟨rfl,pre',hp',hJx⟩⟩:=am
    . have hKq : ∀k,ZQ Rt A bP pv k->ZQ Rt D bP (.slice (some ⟨F,0,none⟩) (d+1) p) k:=fun k hk=>by
       rcases hk with hk|⟨h1,h2,h3⟩
       . exact bW hk
       . refine bX ⟨hBD _ (hAB _ h1),h2,fun e=>?_⟩;rcases (hown _ e).2.2.2.2 with h|h
         . rcases HQ7.out _ h with h|h
           . exact h3 h
           . have:=HL.out _ h1;omega
         . have:=HL.out _ h1;omega
      have hK10:=bU (hK8.trans (hK9.less hKq));have Y:=f.fr hK9 (fun b hb e=>e (bW hb));have ba:=hK9.size;have U : ∀g,pv'.ownBlock=some g->pv.ownBlock=some g\/W.heap.size<=g:=fun g hg=>by
       rcases ae g hg with h|h
       . rcases (hown g h).2.2.2.2 with h|h
         . exact HQ7.out g h
         . exact bX Ab
       . exact bX Ab
      clear T w o y0 v0 f hK8 hK9 hown hKq ae HQ7 HX HBp hob;obtain ⟨y0,p0,v0,⟨ds',hd1',hown⟩,a0',a1',a2',ap,-,hEl⟩:=hV9;rcases hown.row with ⟨-,h0,-⟩|⟨g',cap',rfl,-,-,-⟩
      . omega
      have HP2:=bU ap;have hgP:g'≠bP:=(ap g' rfl).2.2.1;have hcap:d+1<=cap':=OwnF.le (B:=0) ⟨cQ _,(hown.below g' (fun k hk=>by obtain rfl:=cD (show some g'=some k from hk);exact cH _))⟩;have hm:((d+1:Nat):Int)-1=(d:Int):=by omega
      have hsh:=hown.shrink (m:=d) Ab;have HQ:=bU U;have HE:=bU hEl;have HJ9:=bU J9;clear hown ap U hEl J9;have X9:=fC (fun k=>k=bP) ad;refine eK ?_;refine C1 (Bq rfl rfl (dA _ Ab)) (C1 (Ei Ad rfl rfl rfl rfl hm Ab) (eS [_] p0 ?_));intro an ao Q bb;have Y:=fO Y Q (fun b hb h=>by have:=HR.out _ hb;omega);have y0:=fB y0 Q (fun h=>ne.1 h);have v0:=fB v0 Q (fun h=>ne.2 h);have hsh:=Own.fr hsh Q (fun k hk e=>hgP ((cD (show some g'=some k from hk)).trans e));have X9:=X9.fr Q Ab;refine Ak (Af (Ag (Aj (C1 V7 (C1 Mv (Ak ?_))))));refine AI (j+1,E,.slice (some ⟨g',0,none⟩) d cap') sB ⟨by simp only;omega,⟨y0,ao,v0,⟨_,List.all_eq_true.2 (fun x hx=>List.all_eq_true.1 hd1' x (List.mem_of_mem_take hx)),hsh⟩,a0',a1',a2',fun g hg=>HP2.out g hg,ne,fun k h=>⟨(HE.out k h).1,by have:=(HE.out k h).2;omega⟩⟩,?_,Y,hK10.out.trans (Keeps.of_fr X9 (fun k hk e=>?_)),fun g hg=>HQ.out g hg,fun k h=>hDE _ (hBD _ (hAB _ h))⟩ (by simp only;omega)
      . simp only;rw [hnext,<-dP];exact HJS.out E E _ ad an HJ9.out (X9.weaken (fun k e=>e▸a1')) hEc hEc (fun _ _ h=>h)
      . rcases hk with hk|hk
        . have:=HR.out _ hk;omega
        . exact hk.2.1 e
    . refine eK ?_;refine xR ?_;exact ⟨false,rfl,E,fun k h=>hDE k (hBD k (hAB k h)),hEc,bX ⟨rfl,pre',hp',hJx⟩⟩
  . obtain rfl:j=l.length:=by omega
    rw [dB] at hJ7;have hJ8:J B (pre++(Nd.mk k n s l).walk) w7:=by rw [Nd.walk,<-List.singleton_append,<-dP];exact hJ7
    refine eK ?_;refine xR ?_;exact ⟨true,rfl,B,hAB,fun k h=>(hV.lt k h).1,bW ⟨rfl,qv,hV,hJ8,R,hK7⟩⟩
def Yu (t:Nd) (hz:t.size<=1000000) (Rt:nP) (br:Nat) (a:oA) (ca:Nat) (w:wD) (U : ∀k,Rt k->k<w.heap.size) (ab:Rt br) (G:Blk w br (t.cells a ca)) (L:t.sits Rt w a) :
 OW prog 136 [.pointer (some ⟨br,0,none⟩)] Ys Rt t.walk w:=by
 intro y J Jx W hK hJ ai hY h0;have ad:=hK.size;have aj:=U _ ab;have G:=G.fr hK (fun e=>e ab);have L:=L.fr hK (fun b hb e=>e hb);have ac : ∀k,Rt k->k<W.heap.size:=fun k N=>Nat.lt_of_lt_of_le (U k N) ad
 have HY:=bU hY;have HJ:=bU hJ;have H0:=bU h0;have HR:=bU ac;clear hY hJ h0 U ac hK;have X:=eU W;show Calls _ _ #[.func (.yield y) #[] #[],.pointer (some ⟨br,0,none⟩)] W _;refine Ac func136 ntmps136 rfl rfl ?_;refine cS (eB [_] ?_);intro b1 w2 O x5 p6 z7;revert G L X;refine eE x5 ?_;intro G L X;refine cN (eA [_] ?_);intro b8 w9 F ae ak al;revert O G L X;refine eE ae ?_;intro O G L X;refine cN (eA [_] ?_);intro V am af ag an ao;revert F O G L X;refine eE ag ?_;intro F O G L X;refine cN (C1 (D9 rfl) (eS [_] af ?_));intro M Y Z ap;revert F O G;refine eF Z ?_;intro F O G;have L:=eW L Z (fun b hb e=>by have:=HR.out _ hb;omega);have X:=X.fr Z Ab;refine cT (Aj (C1 (Pl Y) (Cd [_,_,_,_] Ad rfl rfl rfl G rfl rfl rfl ?_)));obtain ⟨A,hA⟩ : ∃A:nP,A=fun k=>W.heap.size<=k/\k<W.heap.size+3:=⟨_,rfl⟩
 have aa : ∀k,A k->W.heap.size<=k/\k<M.heap.size:=fun k N=>by rw [hA] at N;omega
 have J1:J A [] M:=HJ.out (fun _=>False) A [] W M H0.out ⟨X.os,X.tape,X.output,X.size,fun k N _=>X.block N⟩ (fun _ h=>h.elim) (fun k N=>(aa k N).1) (fun k N h=>by have:=aa k h;omega);have ha : ∀k,W.heap.size<=k->k<W.heap.size+3->A k:=fun k h1 h2=>by rw [hA];exact ⟨h1,h2⟩
 have hV:VSt y W.heap.size b1 b8 V A M (.slice none 0 0) 0:=⟨O,F,Y,⟨[],rfl,Own.nil⟩,ha _ Ab Ab,ha _ Ab Ab,ha _ Ab Ab,fun g hg=>by simp [eR] at hg,⟨Ab,Ab⟩,aa⟩;have HX:=bU (Yt y W.heap.size b1 b8 V Rt HR.out J Jx HJ.out t.walk HY.out (t.size+1) t A [] a ca M (.slice none 0 0) 0 Ab hz Ab L hV J1 (List.prefix_refl _));clear hA J1 ha hV Y F O G X;refine AC (Bv (fi:=[]) (ca:=[.pointer (some ⟨b1,0,none⟩),.pointer (some ⟨b8,0,none⟩),.pointer (some ⟨V,0,none⟩)]) A9 rfl rfl HX.out (fun _ _ h=>h.ret)) rfl ?_ aFh;rintro _ aq ⟨ar,⟨⟨⟩,ah⟩⟩;refine Ak (Bs rfl ?_);obtain ⟨A',-,hc,⟨rfl,pv,-,hj,-⟩|⟨rfl,pre,hp,hj⟩⟩:=ah
 . exact ⟨⟨_,rfl⟩,A',hc,bW hj⟩
 . exact ⟨⟨_,rfl⟩,A',hc,bX ⟨pre,hp,hj⟩⟩
def WalkR (t:Nd) (w:wD):Ending->wD->Prop:=fun e w'=> ∃br,e = .returned (.func (.func 136) #[] #[.pointer (some ⟨br,0,none⟩)])/\OW prog 136 [.pointer (some ⟨br,0,none⟩)] Ys (fun k=>w.heap.size<=k/\k<w'.heap.size) t.walk w'/\Ext w w'
def WalkR.ret {t:Nd} {w:wD} {e:Ending} {w':wD} (h:WalkR t w e w') : ∃v,e = .returned v:=by
 obtain ⟨_,h,-⟩:=h;exact ⟨_,h⟩
def Wv (t:Nd) (O:t.size<=1000000) (S:nP) (a:oA) (c:Nat) (w:wD) (h:t.sits S w a):Calls prog 111 #[t.val a c] w (WalkR t w):=by
 have X:=eU w;refine Ac func111 ntmps111 rfl rfl ?_;refine cS (eB [_,_,_,_] ?_);intro b1 w2 G U p6 z7;revert h X;refine eE U ?_;intro h X;refine eK ?_;refine eQ rfl (OB _ O _ _ _ _ Ae) ?_;rintro _ V ⟨a8,⟨c9,⟨⟨⟩,⟨F,L⟩⟩⟩⟩;revert G h X;refine eY L ?_;intro Y G h X;refine xA [_,_,_,_] ?_;intro Z aa M;refine eI [_,_,_,_] M ?_;intro ab ac N ad z21;revert F G h X;refine eE N ?_;intro F G h X;refine cN (C1 (D9 rfl) ?_);refine eK ?_;refine xR ?_;exact ⟨_,rfl,Yu t O _ _ _ _ _ (fun k hk=>hk.2) ⟨Ab,Ab⟩ Ae (eX Ae (fun b hb=>⟨Ab,Ab⟩)),X⟩
def Nd.isRef (s:lB) (m:Nd):Bool:=decide (2<=m.kind/\m.kind<=5)&&decide (m.name=s)
def Nd.ment (s:lB) (t:Nd):Bool:=t.walk.any (Nd.isRef s)
def YX {c:Nat} {W:wD} {vs:lV} {x:Nd} (h:Ys c W vs x) : ∃u v,vs=[u,v]:=by
 obtain ⟨F,G,L,a,c,rfl,-⟩:=h;exact ⟨_,_,rfl⟩
def Mz (t:Nd) (hz:t.size<=1000000) (s:lB) (S:nP) (a:oA) (c:Nat) (w:wD) (Y:t.sits S w a):Calls prog 139 #[t.val a c,str s] w fun e w'=>e = .returned (.bool (t.ment s))/\Ext w w':=by
 have X:=eU w;refine NU (args:=[_,_]) func139 ntmps139 rfl rfl ?_;refine cS (eB [_,_,_,_] ?_);intro b1 w2 h4 x5 p6 z7;revert Y X;refine eE x5 ?_;intro Y X;refine eB [_] ?_;intro b8 w9 L ae av aw;revert h4 Y X;refine eE ae ?_;intro h4 Y X;refine eA [_] ?_;intro N af Z ag ax z22;revert L h4 Y X;refine eE ag ?_;intro L h4 Y X;refine eK ?_;refine eQ rfl (Wv _ hz _ _ _ _ Ae) ?_;rintro _ ab ⟨au,⟨⟨⟩,⟨ac,ah⟩⟩⟩;revert Z L h4 Y X;refine eY ah ?_;intro ay Z L h4 Y X;refine cT ?_;refine Av ?_;obtain ⟨m,hm⟩ : ∃m,m=ab.heap.size:=⟨_,rfl⟩;refine QM rfl rfl rfl A9 ac (fun _ _ _ _ h=>YX h) (fun k F=>F.2)
  (fun A xs W=>Blk W b8 [str s]/\Blk W N [.bool false]/\xs.any (Nd.isRef s)=false/\Ext w W)
  (fun A xs W=>Blk W N [.bool true]/\xs.any (Nd.isRef s)=true/\Ext w W) ?_ ?_ ⟨L,Z,rfl,X⟩ ?_ ?_ ?_
 . rintro A A' xs W W' ⟨h1,h2,h3,x⟩ hf M - -;exact ⟨h1.fr hf (fun e=>by have:=M _ e;omega),h2.fr hf (fun e=>by have:=M _ e;omega),h3,gE x hf (fun k F=>by have:=M _ F;omega)⟩
 . rintro A A' xs W W' ⟨h1,h2,x⟩ hf M - -;exact ⟨h1.fr hf (fun e=>by have:=M _ e;omega),h2,gE x hf (fun k F=>by have:=M _ F;omega)⟩
 . rintro r A pre x u v W M ai ⟨U,j2,j3,V⟩ ⟨pa,pn,pc,xa,xc,e,sx,-⟩ O;simp only [dU,and_true] at e;obtain ⟨rfl,rfl⟩:=e;clear ac Z L h4 Y X;have az:=M _ ai;have ad:(pre++[x]).any (Nd.isRef s)=x.isRef s:=by rw [List.any_append,j3];simp
   obtain ⟨k,n,sn,l⟩:=x;have X1:=eU W;refine Cm rfl KA ?_;refine xA [_,_,_,_] ?_;intro aj a0 ak;refine eI [_,_,_,_] ak ?_;intro a1 G al a2 a3;revert U j2 V sx X1;refine eE al ?_;intro U j2 V sx X1;refine Ak ?_;refine NW (Keeps.of_ext X1) fun W2 f2=>?_
   revert G U j2;refine eF f2 ?_;intro G U j2;have V:=gE V f2 (fun k F=>by omega);have a4:=f2.size;have a5 : ∀k,A k->k<W2.heap.size:=fun k F=>by have:=M k F;omega
   have HA:=bU M;clear sx X1 f2 M;simp only [Nd.kind,Nd.num,fQ,Nd.kids] at G;refine J4 (F7 (Cm rfl (CG (Cj DE)) (C1 Pg (C1 (Pl G) (Ak (EN ?_))))));refine J4 ?_;refine Yn (ι:=Unit) (fun _=>[(3,.pointer (some ⟨b8,0,none⟩)),(4,.pointer (some ⟨N,0,none⟩)),(6,.pointer (some ⟨aj,0,none⟩)),(13,.bool (decide (2<=k/\k<=5)))]) (fun _ w'=>w'=W2) ?_ ?_
   . focus
      refine F7 (Cm rfl (CG (CG (Cj (Cj DE)))) (C1 V1 (C1 Pa (Ak (EN ?_)))));refine Jj rfl (fun am=>?_) (fun am=>?_);refine IF ?_;rotate_left;refine F7 (Cm rfl (CG (CG (Cj (Cj DE)))) (C1 V1 (C1 Pa (Ak (EN ?_)))));refine Jj rfl (fun an=>?_) (fun an=>?_);refine IF ?_;rotate_left;refine F7 (Cm rfl (CG (CG (Cj (Cj DE)))) (C1 V1 (C1 Pa (Ak (EN ?_)))));refine Jj rfl (fun ao=>?_) (fun ao=>?_);refine IF ?_;rotate_left;refine Cm rfl (CG (Cj (Cj DE))) (C1 V1 (C1 Pa (Ak ?_)));rotate_left
     all_goals exact B8 () (AQ rfl (AQ rfl (AQ rfl (Bx rfl (congrArg Value.bool (decide_eq_decide.2 Ab)) Cy)))) rfl
   . rintro-W3 h;subst h;have X3:=fC (fun k=>k=N) W3;have hb : ∀k,A k\/(af.heap.size<=k/\k<ab.heap.size) -> ¬k=N:=fun k F e=>by
      rcases F with F|F
      . have:=HA.out k F;omega
      . omega
     have hy:=ad;unfold Nd.isRef at hy;simp only [Nd.kind,fQ] at hy;clear ad O
     focus
      refine Jj rfl (fun ap=>?_) (fun ap=>?_);refine F7 (Cm rfl (CG (Cj (Cj DE))) (C1 Pf (C1 (Pl G) (C1 (Pl U) (C1 V8 (Ak (EN ?_)))))));refine Jj rfl (fun aq=>?_) (fun aq=>?_);refine F7 (Cm rfl (CG (Cj (Cj DE))) (eS [_] j2 ?_));intro a6 a7 ar a8;revert G U V X3;refine eF ar ?_;intro G U V X3;refine Ak (EN (Zz (AH (AH ?_))));rotate_left;refine IF (Af (Af ?_));rotate_left;refine IF (Af (Af ?_));rotate_left
     . exact ZA (Keeps.of_fr X3 hb) ⟨Ae,hy.trans (by simp [*]),Ae⟩
     . exact O0 (Keeps.of_fr X3 hb) ⟨Ae,Ae,hy.trans (by simp [*]),Ae⟩
     . refine O0 (Keeps.of_fr X3 hb) ⟨Ae,Ae,hy.trans ?_,Ae⟩;rw [Bool.and_eq_false_iff];exact bW (decide_eq_false Ab)
 . rintro A W M ⟨U,j2,j3,V⟩-F;refine NX (F8 (Lo (Hn (NT Ad rfl rfl rfl rfl rfl j2 (fun w1 hb hf=>J6 (F8 (OX ?_)))))));refine QL ?_ rfl Ad rfl rfl rfl hb (fun w2 aa=>⟨by rw [Nd.ment,j3],gE (gE V hf (fun k e=>by omega)) aa (fun k e=>by omega)⟩);rw [hf.block _ (Array.getElem?_eq_some_iff.1 F).1 Ab];exact F
 . rintro A pre W M O ⟨U,j2,V⟩-F;refine Nf (OZ (QL F rfl Ad rfl rfl rfl U (fun w2 aa=>⟨?_,gE V aa (fun k e=>by omega)⟩)));obtain ⟨q,hq⟩:=O;rw [Nd.ment,<-hq,List.any_append,j2];rfl
def Im (k:Nat):Shape Unit where
 sz:=k
 rep _ _ _ cs:=cs.length=k/\cs.all fP=true
 len h:=h.1
 one h:=h.2
 mono h _ _:=h
 lt h:=h
def GP:Shape (Int×Bool) where
 sz:=6
 rep _ _ x cs:= ∃(k n:Int) (s:lB) (a:oA) (m c:Nat),cs=[.int .u8 k,.int .i64 n,str s,.slice a m c,.int .i64 x.1,.bool x.2]
 len h:=by obtain ⟨_,_,_,_,_,_,rfl⟩:=h;rfl
 one h:=by obtain ⟨_,_,_,_,_,_,rfl⟩:=h;rfl
 mono h _ _:=h
 lt h:=h
def NodeR (w:wD):Ending->wD->Prop:=fun e w'=> ∃(k n:Int) (s:lB) (a:oA) (m c:Nat),e = .returned (.agg #[.int .u8 k,.int .i64 n,str s,.slice a m c])/\Ext w w'
def NodeR.ret {w:wD} {e:Ending} {w':wD} (h:NodeR w e w') : ∃v,e = .returned v:=by
 obtain ⟨_,_,_,_,_,_,h,-⟩:=h;exact ⟨_,h⟩
def IG (v:Int) (w:wD) (h:0<=v):Calls prog 185 #[.int .i64 v] w (NodeR w):=by
 have X:=eU w;refine Ac func185 ntmps185 rfl rfl ?_;refine cS (eA [_,_,_,_] ?_);intro O U L M V Y;have X:=X.ext M;refine eK ?_;refine C1 (xB [_,_,_,_]) (eS [_,_,_,_] L ?_);intro Z F G N;have X:=X.fr G Ab;refine eK ?_;refine xC F ?_;exact ⟨_,_,[],_,_,_,rfl,X⟩
def UH (v:Int) (w:wD) (h : -9223372036854775808<=v):Calls prog 185 #[.int .i64 v] w (NodeR w):=by
 by_cases h0:0<=v
 . exact IG v w h0
 by_cases h1:v = -9223372036854775808
 . subst h1;have X:=eU w;refine Ac func185 ntmps185 rfl rfl ?_;refine cS (eA [_,_,_,_] ?_);intro b1 w2 N x6 p7 z8;have X:=X.ext x6;refine eK ?_;refine eQ rfl (IG _ _ Ab) ?_;rintro _ aw ⟨k9,⟨ax,⟨ay,⟨az,⟨a0,⟨a1,⟨⟨⟩,aa⟩⟩⟩⟩⟩⟩⟩;revert N X;refine eY aa ?_;intro a2 N X;refine eQ rfl (IG _ _ Ab) ?_;rintro _ a3 ⟨a4,⟨a5,⟨a6,⟨a21,⟨a7,⟨a8,⟨⟨⟩,ab⟩⟩⟩⟩⟩⟩⟩;revert N X;refine eY ab ?_;intro a9 N X;refine AC (xS [_,_,_,_,_,_,_,_]) rfl ?_ aFh;rintro _ ba ⟨bb,rfl,L,bc⟩;have O:=L.blk;have ac:=L.ext;have bd:=L.pos;have be:=L.size;revert N X;refine eE ac ?_;intro N X;refine C1 (xB [_,_,_,_]) (eS [_,_,_,_] N ?_);intro bf ad ae bg;revert O X;refine eF ae ?_;intro O X;refine eK ?_;refine xC ad ?_;exact ⟨_,_,[],_,_,_,rfl,X⟩
 . have X:=eU w;have hw:0<=Ko (0-v):=by
    have:Ko (0-v)=0-v:=by unfold Ko;rw [IntKind.wrap];simp [IntKind.signed,IntKind.bits];omega
    omega
   refine Ac func185 ntmps185 rfl rfl ?_;refine cS (eA [_,_,_,_] ?_);intro bh bi G af bj bk;have X:=X.ext af;refine eK ?_;refine C1 (Ps rfl) (eQ rfl (IG _ _ hw) ?_);rintro _ ag ⟨bl,⟨ah,⟨ai,⟨aj,⟨ak,⟨al,⟨⟨⟩,U⟩⟩⟩⟩⟩⟩⟩;revert G X;refine eY U ?_;intro am G X;refine AC (xS [_,_,_,_]) rfl ?_ aFh;rintro _ an ⟨ao,rfl,F,ap⟩;have M:=F.blk;have V:=F.ext;have aq:=F.pos;have ar:=F.size;revert G X;refine eE V ?_;intro G X;refine C1 (xB [_,_,_,_]) (eS [_,_,_,_] G ?_);intro au Y Z av;revert M X;refine eF Z ?_;intro M X;refine eK ?_;refine xC Y ?_;exact ⟨_,_,[],_,_,_,rfl,X⟩
end Bk
