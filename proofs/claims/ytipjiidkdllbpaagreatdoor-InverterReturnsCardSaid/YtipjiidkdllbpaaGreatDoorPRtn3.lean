/- Texts that the proofs of InverterReturns need. No condition. (Part 3 of 8.) -/
import Derived.Test.YtipjiidkdllbpaaGreatDoorPRtn2
set_option linter.unusedSimpArgs false
set_option linter.unusedVariables false
set_option linter.defProp false
set_option maxRecDepth 100000
set_option maxHeartbeats 4000000
open Go.Proofs.Tryz
open List renaming getElem?_eq_getElem->bT,getD_eq_getElem?_getD->cB,length_cons->cF,getElem?_eq_none->cI,getElem?_append_left->cK,getElem_mem->cL,length_append->cP,getElem?_append_right->cW,take_length->dB,length_nil->dD,getElem?_cons_zero->dF,take_succ_eq_append_getElem->dG,drop_eq_getElem_cons->dH,replicate->dJ,mem_of_getElem?->dL,append_assoc->dP,mem_cons->dQ,getElem?_map->dZ,length_take->eH,not_mem_nil->eP
open Go.Lib renaming hid->bU
open Or renaming inl->bW,inr->bX
open Bool renaming and_eq_true->bZ,false_eq_true->dK
open Option.some renaming inj->cD,injEq->cE
open Go.Result renaming andThen->cG
open Nat renaming le_refl->cH,lt_or_ge->cO,zero_le->cQ,blt->cV,le_of_ble_eq_true->dE,eq_of_beq_eq_true->dO,le_trans->dV,ble->dW,beq->eC,zero_add->eJ
open Except renaming bind->cJ
open Go.Sem renaming run_bind->cU,run_pure->dC
open Go renaming Calls->cX
open Go.Value renaming slice->cY,int->dM,ownBlock->eR
open Go.Region renaming ready->cZ,binds->dT
open Go.IntWalk renaming i64_in->dA
open Go.Value.slice renaming injEq->dI
open Go.DataW renaming trod->dN
open Go.Builtin renaming zeroCells->dR
open List.cons renaming injEq->dU
open Array renaming getElem?_eq_none->dX,replicate->eO
open Go.Calls renaming mono->dY
open Go.Addr renaming add->eG
open Go.Oper renaming wp->eL
open Bk.Ext renaming refl->eU
open Bk.Nd.sits renaming wide->eX
open Bk.Blk renaming fr->fB,cell->fD,ext->fH,row->fN
open Bk.Fr renaming refl->fC,of_ext->fE,fr->fJ
open Bk.Row renaming ext->fL
open Bk.Value renaming one->fP
namespace Bk
open Go Go.RowKit Go.Proofs
def JN {P:Program} {n:Nat} {l:Sl} {op:Op} {ty:TypeId} {v:Value} {w:wD} (h:BB P n l (· = w) op ty v):B5 P n l op ty w (fun r w'=>match r with|some u=>u=v/\w=w'|none=>False):=by
 unfold B5;unfold BB at h;intro a dst pos after g next Q ha k k0;unfold eL;rw [h a w dst pos after g ha rfl];exact k v w ⟨rfl,rfl⟩
attribute [local irreducible] Go.Calls
def Ro.low {ρ ρ':Nat->Rl} {w w':wD} (h:Ro ρ ρ' w') (F:w.heap.size<=w'.heap.size):Ro ρ ρ' w:=fun b G=>h b Ab
def Vz (ρ:Nat->Rl) (tb:Nat) (to:List Int) (w:wD) (h:TapeAt ρ w tb [] to):Calls prog 179 #[.pointer (some ⟨tb,0,none⟩)] w (TapeR ρ tb [] to (.tuple #[.int .i64 0,.int .i64 17]) w):=by
 have F:=fC (BP ρ) w;have L:=bU (fun w1 h=>Xw ρ tb to 0 w1 h);refine Ac func179 ntmps179 rfl rfl ?_;refine eK ?_;refine C1 (A2 Ad rfl rfl) ?_;refine eK ?_;refine eQ rfl (L.out _ Ae) ?_;rintro _ O ⟨M,⟨⟨⟩,⟨U,⟨V,G⟩⟩⟩⟩;have X:=G.size;clear h;have F:=fJ F G (fun k N=>bW N);refine eK ?_;refine xT ?_;exact ⟨_,rfl,Ro.low Ae Ab,Ae,F⟩
def XA (ρ:Nat->Rl) (tb:Nat) (x:Int) (ti to:List Int) (w:wD) (h:TapeAt ρ w tb (x::ti) to):Calls prog 179 #[.pointer (some ⟨tb,0,none⟩)] w (TapeR ρ tb ti to (.tuple #[.int .i64 x,.int .i64 0]) w):=by
 have F:=fC (BP ρ) w;have L:=bU (fun w1 h=>Xy ρ tb x ti to w1 h);refine Ac func179 ntmps179 rfl rfl ?_;refine eK ?_;refine C1 (A2 Ad rfl rfl) ?_;refine eK ?_;refine eQ rfl (L.out _ Ae) ?_;rintro _ O ⟨M,⟨⟨⟩,⟨U,⟨V,G⟩⟩⟩⟩;have X:=G.size;clear h;have F:=fJ F G (fun k N=>bW N);refine eK ?_;refine xT ?_;exact ⟨_,rfl,Ro.low Ae Ab,Ae,F⟩
def RI (ρ:Nat->Rl) (tb:Nat) (x:Int) (ti to:List Int) (w:wD) (h:TapeAt ρ w tb ti to) (L:ti.length=4096):Calls prog 180 #[.pointer (some ⟨tb,0,none⟩),.int .i64 x] w (TapeR ρ tb ti to (.int .i64 5) w):=by
 have F:=fC (BP ρ) w;have M:=bU (fun w1 h=>Xs ρ tb ti to 0 x w1 h L);refine Ac func180 ntmps180 rfl rfl ?_;refine eK ?_;refine C1 (A2 Ad rfl rfl) ?_;refine eK ?_;refine eQ rfl (M.out _ Ae) ?_;rintro _ U ⟨N,⟨⟨⟩,⟨V,⟨X,G⟩⟩⟩⟩;have Y:=G.size;clear h;have F:=fJ F G (fun k O=>bW O);refine eK ?_;refine xR ?_;exact ⟨_,rfl,Ro.low Ae Ab,Ae,F⟩
def ND (ρ:Nat->Rl) (tb:Nat) (x:Int) (ti to:List Int) (w:wD) (h:TapeAt ρ w tb ti to) (L:ti.length<4096):Calls prog 180 #[.pointer (some ⟨tb,0,none⟩),.int .i64 x] w (TapeR ρ tb (x::ti) to (.int .i64 0) w):=by
 have F:=fC (BP ρ) w;have M:=bU (fun w1 h=>Xu ρ tb ti to x w1 h L);refine Ac func180 ntmps180 rfl rfl ?_;refine eK ?_;refine C1 (A2 Ad rfl rfl) ?_;refine eK ?_;refine eQ rfl (M.out _ Ae) ?_;rintro _ U ⟨N,⟨⟨⟩,⟨V,⟨X,G⟩⟩⟩⟩;have Y:=G.size;clear h;have F:=fJ F G (fun k O=>bW O);refine eK ?_;refine xR ?_;exact ⟨_,rfl,Ro.low Ae Ab,Ae,F⟩
def PZ (ρ:Nat->Rl) (tb:Nat) (ti:List Int) (w:wD) (h:TapeAt ρ w tb ti []):Calls prog 181 #[.pointer (some ⟨tb,0,none⟩)] w (TapeR ρ tb ti [] (.tuple #[.int .i64 0,.int .i64 17]) w):=by
 have F:=fC (BP ρ) w;have N:=bU (fun w1 h=>Xx ρ tb ti ((([]:List Int).length:Int)-1) w1 h);have O:=h.lo;obtain ⟨vi,vo,L,U,M⟩:=h.blk;obtain ⟨a,c,rfl⟩:=M.1.shape;clear U M;refine Ac func181 ntmps181 rfl rfl ?_;refine eK ?_;refine C1 (A2 Ad rfl rfl) ?_;refine eK ?_;refine Ar (fun _=>True) 12 (.pure 0 (.pure 1 (.pure 2 (.pure 3 (.pure 4 (.pure 5 (.fork 6 (.pure 7 (.pure 8 (.fork 9 (.pure 10 (.pure 11 .tail)) .none))) .none))))))) mixed A9 (Aa Ah) ?_;intro w1 V _;revert h F L;refine eY V ?_;intro z4 h F L;refine ⟨trivial,?_⟩;refine eT ?_;refine Ax rfl (JN (An Ad rfl rfl rfl (fun wz X=>by subst X;exact fD L rfl))) rfl ?_ aFh Aw;rintro _ _ ⟨rfl,rfl⟩;refine ⟨trivial,?_⟩;refine Tq rfl Pz (Tq rfl (Bq rfl rfl (dA _ Ab)) ?_);refine Ax rfl (AU A9 rfl (N.out _ Ae) (fun _ _ h=>h.ret)) rfl ?_ aFh Aw;rintro _ Y ⟨Z,⟨⟨⟩,⟨h8,⟨h9,G⟩⟩⟩⟩;have aa:=G.size;clear h;replace F:=fJ F G (fun k hk=>bW hk);clear L G;refine ⟨trivial,?_⟩;refine Tq rfl Px (Tq rfl Px (At rfl ?_));refine eK ?_;refine Be rfl rfl rfl ?_;exact ⟨_,rfl,Ro.low Ae Ab,Ae,F⟩
def RJ (ρ:Nat->Rl) (tb:Nat) (x:Int) (ti ys:List Int) (w:wD) (h:TapeAt ρ w tb ti (ys++[x])):Calls prog 181 #[.pointer (some ⟨tb,0,none⟩)] w (TapeR ρ tb ti ys (.tuple #[.int .i64 x,.int .i64 0]) w):=by
 have F:=fC (BP ρ) w;have N:=bU (fun w1 h=>Xz ρ tb x ti ys w1 h);have O:=h.lo;obtain ⟨vi,vo,L,U,M⟩:=h.blk;obtain ⟨a,c,rfl⟩:=M.1.shape;clear U M;refine Ac func181 ntmps181 rfl rfl ?_;refine eK ?_;refine C1 (A2 Ad rfl rfl) ?_;refine eK ?_;refine Ar (fun _=>True) 12 (.pure 0 (.pure 1 (.pure 2 (.pure 3 (.pure 4 (.pure 5 (.fork 6 (.pure 7 (.pure 8 (.fork 9 (.pure 10 (.pure 11 .tail)) .none))) .none))))))) mixed A9 (Aa Ah) ?_;intro w1 V _;revert h F L;refine eY V ?_;intro z4 h F L;refine ⟨trivial,?_⟩;refine eT ?_;refine Ax rfl (JN (An Ad rfl rfl rfl (fun wz X=>by subst X;exact fD L rfl))) rfl ?_ aFh Aw;rintro _ _ ⟨rfl,rfl⟩;refine ⟨trivial,?_⟩;refine Tq rfl Pz (Tq rfl (Bq rfl rfl (dA _ Ab)) ?_);refine Ax rfl (AU A9 rfl (N.out _ Ae) (fun _ _ h=>h.ret)) rfl ?_ aFh Aw;rintro _ Y ⟨Z,⟨⟨⟩,⟨h8,⟨h9,G⟩⟩⟩⟩;have aa:=G.size;clear h;replace F:=fJ F G (fun k hk=>bW hk);clear L G;refine ⟨trivial,?_⟩;refine Tq rfl Px (Tq rfl Px (At rfl ?_));refine eK ?_;refine Be rfl rfl rfl ?_;exact ⟨_,rfl,Ro.low Ae Ab,Ae,F⟩
def Ub (ρ:Nat->Rl) (tb:Nat) (x:Int) (ti to:List Int) (w:wD) (h:TapeAt ρ w tb ti to) (N:to.length=4096):Calls prog 182 #[.pointer (some ⟨tb,0,none⟩),.int .i64 x] w (TapeR ρ tb ti to (.int .i64 5) w):=by
 have F:=fC (BP ρ) w;have O:=bU (fun w1 h=>Xt ρ tb ti to to.length x w1 h N);have U:=h.lo;obtain ⟨vi,vo,G,V,M⟩:=h.blk;obtain ⟨a,c,rfl⟩:=M.1.shape;clear V M;refine Ac func182 ntmps182 rfl rfl ?_;refine eK ?_;refine C1 (A2 Ad rfl rfl) ?_;refine eK ?_;refine Ar (fun _=>True) 9 (.pure 0 (.pure 1 (.pure 2 (.pure 3 (.pure 4 (.pure 5 (.pure 8 (.fork 6 (.pure 7 .tail) .none)))))))) mixed A9 (Aa Ah) ?_;intro w1 X _;revert h F G;refine eY X ?_;intro z4 h F G;refine ⟨trivial,?_⟩;refine eT ?_;refine Ax rfl (JN (An Ad rfl rfl rfl (fun wz Y=>by subst Y;exact fD G rfl))) rfl ?_ aFh Aw;rintro _ _ ⟨rfl,rfl⟩;refine ⟨trivial,?_⟩;refine Tq rfl Pz (At rfl (eQ rfl (O.out _ Ae) ?_));rintro _ Z ⟨aa,⟨⟨⟩,⟨h7,⟨h8,L⟩⟩⟩⟩;have ab:=L.size;clear h;replace F:=fJ F L (fun k hk=>bW hk);clear G L;refine eK ?_;refine AM rfl rfl ?_;exact ⟨_,rfl,Ro.low Ae Ab,Ae,F⟩
def P0 (ρ:Nat->Rl) (tb:Nat) (x:Int) (ti to:List Int) (w:wD) (h:TapeAt ρ w tb ti to) (N:to.length<4096):Calls prog 182 #[.pointer (some ⟨tb,0,none⟩),.int .i64 x] w (TapeR ρ tb ti (to++[x]) (.int .i64 0) w):=by
 have F:=fC (BP ρ) w;have O:=bU (fun w1 h=>Xv ρ tb ti to x w1 h N);have U:=h.lo;obtain ⟨vi,vo,G,V,M⟩:=h.blk;obtain ⟨a,c,rfl⟩:=M.1.shape;clear V M;refine Ac func182 ntmps182 rfl rfl ?_;refine eK ?_;refine C1 (A2 Ad rfl rfl) ?_;refine eK ?_;refine Ar (fun _=>True) 9 (.pure 0 (.pure 1 (.pure 2 (.pure 3 (.pure 4 (.pure 5 (.pure 8 (.fork 6 (.pure 7 .tail) .none)))))))) mixed A9 (Aa Ah) ?_;intro w1 X _;revert h F G;refine eY X ?_;intro z4 h F G;refine ⟨trivial,?_⟩;refine eT ?_;refine Ax rfl (JN (An Ad rfl rfl rfl (fun wz Y=>by subst Y;exact fD G rfl))) rfl ?_ aFh Aw;rintro _ _ ⟨rfl,rfl⟩;refine ⟨trivial,?_⟩;refine Tq rfl Pz (At rfl (eQ rfl (O.out _ Ae) ?_));rintro _ Z ⟨aa,⟨⟨⟩,⟨h7,⟨h8,L⟩⟩⟩⟩;have ab:=L.size;clear h;replace F:=fJ F L (fun k hk=>bW hk);clear G L;refine eK ?_;refine AM rfl rfl ?_;exact ⟨_,rfl,Ro.low Ae Ab,Ae,F⟩
def ZX (ρ:Nat->Rl) (tb:Nat) (ti to:List Int) (w:wD) (h:TapeAt ρ w tb ti to):Calls prog 109 #[.pointer (some ⟨tb,0,none⟩)] w (CloneR ti w):=by
 have X:=eU w;have M:=h.li;obtain ⟨U,V,L,G,N⟩:=h.blk;obtain ⟨a,c,rfl⟩:=G.1.shape;have F:=G.1.at;clear h G N;refine Ac func109 ntmps109 rfl rfl ?_;refine eK ?_;refine C1 (A2 Ad rfl rfl) ?_;refine eK ?_;refine eQ rfl (FY ti Ab _ _ _ Ae) ?_;rintro _ Y ⟨Z,⟨c2,⟨⟨⟩,⟨h3,⟨h4,O⟩⟩⟩⟩⟩;revert X L F;refine eY O ?_;intro z7 X L F;refine eK ?_;refine xR ?_;exact ⟨_,_,rfl,Ae,Ae,X⟩
def Zg (ρ:Nat->Rl) (tb:Nat) (ti to:List Int) (w:wD) (h:TapeAt ρ w tb ti to):Calls prog 110 #[.pointer (some ⟨tb,0,none⟩)] w (CloneR to w):=by
 have X:=eU w;have M:=h.lo;obtain ⟨U,V,L,N,G⟩:=h.blk;obtain ⟨a,c,rfl⟩:=G.1.shape;have F:=G.1.at;clear h N G;refine Ac func110 ntmps110 rfl rfl ?_;refine eK ?_;refine C1 (A2 Ad rfl rfl) ?_;refine eK ?_;refine eQ rfl (FY to Ab _ _ _ Ae) ?_;rintro _ Y ⟨Z,⟨c2,⟨⟨⟩,⟨h3,⟨h4,O⟩⟩⟩⟩⟩;revert X L F;refine eY O ?_;intro z7 X L F;refine eK ?_;refine xR ?_;exact ⟨_,_,rfl,Ae,Ae,X⟩
def TNewR (ρ:Nat->Rl) (ti to:List Int) (w:wD):Ending->wD->Prop:=fun e w'=> ∃tb ρ',e = .returned (.tuple #[.pointer (some ⟨tb,0,none⟩),.int .i64 0])/\Ro ρ ρ' w/\w.heap.size<=tb/\TapeAt ρ' w' tb ti to/\Ext w w'
def TNewR.ret {ρ:Nat->Rl} {ti to:List Int} {w:wD} {e:Ending} {w':wD} (h:TNewR ρ ti to w e w') : ∃v,e = .returned v:=by
 obtain ⟨_,_,h,-⟩:=h;exact ⟨_,h⟩
def Zh (ρ:Nat->Rl) (ti to:List Int) (Z:ti.length<=4096) (ho:to.length<=4096) (a b:oA) (c d:Nat) (w:wD) (h:IntsAt w ti a) (G:IntsAt w to b):Calls prog 103 #[.slice a ti.length c,.slice b to.length d] w (TNewR ρ ti to w):=by
 have X:=eU w;refine Ac func103 ntmps103 rfl rfl ?_;refine eK ?_;refine eQ rfl (FY ti Ab _ _ _ h) ?_;rintro _ w6 ⟨a1,⟨c2,⟨⟨⟩,⟨L,⟨h4,x5⟩⟩⟩⟩⟩;revert h G X;refine eY x5 ?_;intro z7 h G X;refine C1 Mv (eQ rfl (FY to Ab _ _ _ Ae) ?_);rintro _ M ⟨a8,⟨c9,⟨⟨⟩,⟨F,⟨N,O⟩⟩⟩⟩⟩;revert L h G X;refine eY O ?_;intro aa L h G X;refine C1 (xB [_,_]) (eB [_,_] ?_);intro ab ac U V ad z21;revert F L h G X;refine eE V ?_;intro F L h G X;refine eK ?_;refine xT ?_;refine ⟨_,fun b=>if b<w.heap.size then ρ b else if b<w6.heap.size then .tin else if b<M.heap.size then .tout else .tape,rfl,fun b hb=>AG hb,Ab,⟨?_,⟨_,_,U,⟨L.low (fun _ _=>cQ _),fun k Y=>?_⟩,⟨F.low (fun _ _=>cQ _),fun k Y=>?_⟩⟩,Z,ho⟩,X⟩
 . (try dsimp only)
   rw [As Ab,As Ab,As Ab]
 . have:=h4 k Y
   (try dsimp only);rw [As Ab,AG Ab]
 . have:=N k Y
   (try dsimp only);rw [As Ab,As Ab,AG Ab]
def KQ : ∀(us p q r:lV),us.length=q.length->Bl (p++q++r) p.length us=p++us++r
 | [],p,[],r,_=>by simp [Bl]
 | u::us,p,v::q,r,h=>by
  simp only [cF,Nat.add_right_cancel_iff] at h;have e:(p++v::q++r).set p.length u=(p++[u])++q++r:=by
   rw [dP,List.cons_append,List.set_append_right _ _ (cH _),Nat.sub_self,List.set_cons_zero];simp
  rw [Bl,e];have:=KQ us (p++[u]) q r h;rw [cP,cF,dD,eJ] at this;rw [this];simp
def G8 {F:List lV} {n j:Nat} (h : ∀cs∈F,cs.length=n) (M:j<F.length):F.flatten=(F.take j).flatten++F[j]++(F.drop (j+1)).flatten/\(F.take j).flatten.length=j*n:=by
 constructor
 . have L:=(List.take_append_drop j F).symm;rw [dH M] at L;refine (congrArg List.flatten L).trans ?_;rw [List.flatten_append,List.flatten_cons,dP]
 . rw [FT (fun cs G=>h cs (List.mem_of_mem_take G)),eH];congr 1;omega
def RK {F:List lV} {n j:Nat} {us:lV} (h : ∀cs∈F,cs.length=n) (G:j<F.length) (N:us.length=n):Bl F.flatten (j*n) us=(F.set j us).flatten:=by
 obtain ⟨L,M⟩:=G8 h G;have O:F[j].length=n:=h _ (cL G);rw [L,<-M,KQ us _ _ _ Ab];have e:F.set j us=F.take j++us::F.drop (j+1):=by rw [List.set_eq_take_append_cons_drop,AG G]
 rw [e,List.flatten_append,List.flatten_cons,dP]
structure ArrS {α:Type} (sh:Shape α) (C D:Nat) (w:wD) (g:Nat) (xs:List α):Prop where
 ex : ∃css:List lV,Blk w g css.flatten/\css.length=xs.length /\ ∀(i:Nat) (x:α) (cs:lV),xs[i]? = some x->css[i]? = some cs->sh.rep w (fun b=>C<=b/\b<D) x cs
section
variable {α:Type} {sh:Shape α} {C D g:Nat} {w w':wD} {xs:List α}
def ArrS.lt (h:ArrS sh C D w g xs):g<w.heap.size:=by
 obtain ⟨F,G,-⟩:=h.ex;exact G.lt
def ArrS.fr {T:nP} (h:ArrS sh C D w g xs) (x:Fr T w w') (L : ∀k,T k->(k<C\/D<=k)/\k≠g):ArrS sh C D w' g xs:=by
 obtain ⟨F,M,N,O⟩:=h.ex;exact ⟨F,M.fr x (fun G=>(L g G).2 rfl),N,fun i y cs U V=>sh.mono (O i y cs U V) aFh (fun b o u Y X=>x.keep (fun G=>by have:=(L b G).1;omega) X)⟩
instance {T:nP}:LfF T w w' (ArrS sh C D w g xs) (∀k,T k->(k<C\/D<=k)/\k≠g) (ArrS sh C D w' g xs):=⟨fun x s h=>Bk.ArrS.fr h x s⟩
def ArrS.ext (h:ArrS sh C D w g xs) (x:Ext w w'):ArrS sh C D w' g xs:=by
 obtain ⟨F,G,L,M⟩:=h.ex;exact ⟨F,G.ext x,L,fun i y cs N O=>sh.mono (M i y cs N O) aFh (fun b o u V U=>x.keep U)⟩
instance  : LfE w w' (ArrS sh C D w g xs) (ArrS sh C D w' g xs):=⟨fun x h=>Bk.ArrS.ext h x⟩
def ArrS.wide (h:ArrS sh C D w g xs) {G:Nat} (V:D<=G):ArrS sh C G w g xs:=by
 obtain ⟨F,L,M,N⟩:=h.ex;exact ⟨F,L,M,fun i y cs O U=>sh.mono (N i y cs O U) (fun _ h=>⟨h.1,Ab⟩) (fun _ _ _ _ h=>h)⟩
def ArrS.lens (h:ArrS sh C D w g xs) {F:List lV} (N:F.length=xs.length) (L : ∀(i:Nat) (x:α) (cs:lV),xs[i]? = some x->F[i]? = some cs->sh.rep w (fun b=>C<=b/\b<D) x cs) : ∀cs∈F,cs.length=sh.sz:=fun cs G=>by
 obtain ⟨k,M,rfl⟩:=List.mem_iff_getElem.1 G;exact sh.len (L k xs[k] F[k] (bT Ab) (bT M))
def ArrS.row (h:ArrS sh C D w g xs) {j:Nat} {x:α} (L:xs[j]? = some x) : ∃cs,Row w ⟨g,0+j*sh.sz,none⟩ cs/\sh.rep w (fun b=>C<=b/\b<D) x cs:=by
 obtain ⟨F,U,V,O⟩:=h.ex;have X:j<xs.length:=by
  rcases cO j xs.length with h|h
  . exact h
  . rw [cI h] at L;cases L
 have Y:F[j]? = some F[j]:=bT Ab;obtain ⟨Z,e2⟩:=G8 (h.lens V O) (show j<F.length by omega);refine ⟨F[j],fun i v M=>?_,O j x _ L Y⟩;have N:i<F[j].length:=by
  rcases cO i F[j].length with h|h
  . exact h
  . rw [cI h] at M;cases M
 have G:F.flatten[j*sh.sz+i]? = some v:=by
  rw [Z,dP,cW Ab,e2,Nat.add_sub_cancel_left,cK N];exact M
 have:=U.cell G;have e:(⟨g,0+j*sh.sz,none⟩:Addr).add i=⟨g,j*sh.sz+i,none⟩:=by unfold eG;by_cases h0:i=0<;>simp [h0]
 rw [e];exact this
def ArrS.made {n:Nat} {z:α} {zs:lV} (G:Blk w g (dJ n zs).flatten) (L : ∀w S,sh.rep w S z zs):ArrS sh C D w g (dJ n z):=by
 refine ⟨dJ n zs,G,AR,fun i x cs M N=>?_⟩;have h:=dL M;have F:=dL N;rw [List.mem_replicate] at h F;rw [h.2,F.2];exact L _ _
def XB {j:Nat} {x:α} {us:lV} {w1:wD} {h:List lV} (V:h.length=xs.length) (O : ∀(i:Nat) (x:α) (cs:lV),xs[i]? = some x->h[i]? = some cs->sh.rep w (fun b=>C<=b/\b<D) x cs) (X:j<xs.length) (hg:g<C\/D<=g) (U:sh.rep w (fun b=>C<=b/\b<D) x us) (M:Put w w1 g (Bl h.flatten (j*sh.sz) us)):ArrS sh C D w1 g (xs.set j x):=by
 have Y : ∀cs∈h,cs.length=sh.sz:=fun cs N=>by
  obtain ⟨k,Z,rfl⟩:=List.mem_iff_getElem.1 N;exact sh.len (O k xs[k] h[k] (bT Ab) (bT Z))
 rw [RK Y Ab (sh.len U)] at M;refine ⟨h.set j us,M.blk,by simp [V],fun i y cs G L=>?_⟩;have key:sh.rep w (fun b=>C<=b/\b<D) y cs:=by
  by_cases F:i=j
  . subst F;rw [List.getElem?_set_self X] at G;rw [List.getElem?_set_self Ab] at L;rw [<-cD G,<-cD L];exact U
  . rw [List.getElem?_set_ne (fun e=>F e.symm)] at G L;exact O i y cs G L
 exact sh.mono key aFh (fun b o u hb hu=>M.fr.keep (fun e=>by omega) hu)
end
section
variable {P:Program} {n:Nat} {l:Sl} {w:wD} {tab:Tab} {zt:EV} {ty:TypeId} {α:Type} {sh:Shape α}
def I9 (K:wD->Prop):Option Value->wD->Prop
 | none,w=>K w
 | some _,_=>False
def NE {zs:lV} {k:Nat} (h:zs.length=k) : ∀N:Nat,(List.range (N*k)).map (fun i=>zs.toArray[i%k]!)=(dJ N zs).flatten
 | 0=>by simp
 | N+1=>by
  rw [Nat.add_mul,Nat.one_mul,List.range_add,List.map_append,NE h N,List.replicate_succ',List.flatten_append];congr 1;simp only [List.flatten_cons,List.flatten_nil,List.append_nil,List.map_map];apply List.ext_getElem
  . simp [h]
  . intro i F G;simp only [List.length_map,List.length_range] at F;simp only [List.getElem_map,List.getElem_range,Function.comp];have:(N*k+i)%k=i:=by rw [Nat.mul_comm,Nat.mul_add_mod,Nat.mod_eq_of_lt F]
    rw [this];simp [G]
def Cg {K X:wD->Prop} (h : ∀(_:Unit) w1,K w1->X w1) : ∀v w1,I9 K v w1->X w1:=fun v w1 F=>by
 cases v with
 | none=>exact h () w1 F
 | some v=>exact F.elim
def FH {t e sz1 sz C D:Nat} {sE:Sk} {zs:lV} {x y:Operand} {N:Nat} {z:α} (T:TabOk P tab) (Z:CN P zt) (ht:Az tab t=some (.slice e,sz1)) (hE:Az tab e=some (sE,sz)) (hz:Da zt e=some zs) (hzl:zs.length=sz)
 (hby:DM P e=true) (hx:ev l x=some (.int .i64 (N:Int))) (hy:ev l y=some (.int .i64 (N:Int))) (hN:N<=100000000000) (hz0 : ∀w S,sh.rep w S z zs) :
 B5 P n l (.makeSlice t x y) ty w (Ku fun o w'=> ∃g,o = .slice (some ⟨g,0,none⟩) N N/\ArrS sh C D w' g (dJ N z)/\g=w.heap.size/\w'.heap.size=g+1/\Ext w w'):=by
 unfold B5;intro a dst pos after gd next Q ha hn _;obtain ⟨i,v0,z1,z2,z3⟩:=FM Z hz;obtain ⟨i',hi',hs'⟩:=(T _ _ _ hE).info;rw [z1] at hi';obtain rfl:=cD hi';have hbb:i.bytes<=1000:=by
  unfold DM at hby;rw [z1] at hby;exact dE hby
 have hu:=(T _ _ _ ht).under;have b:(i.bytes:Int)*(N:Int)<=281474976710656:=by
  have:i.bytes*N<=1000*100000000000:=Nat.mul_le_mul hbb hN;have h2:((i.bytes*N:Nat):Int)<=281474976710656:=by omega
  rwa [Int.natCast_mul] at h2
 have hr:=run_make (P:=P) w t e i v0 hu z1 z2 .i64 .i64 N N Ab (Int.le_refl _) b Ab;simp only [Int.toNat_natCast] at hr;have e2:(execOp a.eval ⟨dst,.makeSlice t x y,ty,pos,after,gd⟩).run P w = .ok (.value (.slice (some ⟨w.heap.size,0,none⟩) N N)) (w.alloc (.cells (madeCells v0.cells (N*i.size)) e)):=by
  simp only [execOp,ha.ev hx,ha.ev hy,cU,hr,Result.andThen_ok,dC]
 have ecell:madeCells v0.cells (N*i.size)=(dJ N zs).flatten.toArray:=by
  rw [z3];have hsz:zs.length=i.size:=by omega
  apply Array.ext';simp only [madeCells,Array.toList_map,Array.toList_range,List.size_toArray];rw [hsz];exact NE hsz N
 unfold eL;rw [e2,ecell];have hnew:=EU w (dJ N zs).flatten e;exact hn _ _ ⟨w.heap.size,rfl,.made hnew.blk hz0,rfl,hnew.size,hnew.ext⟩
def CJ {x y:Operand} {t sz C D g j:Nat} {s:Sk} {v:Value} {us:lV} {xs:List α} {z:α} (T:TabOk P tab) (ht:Az tab t=some (s,sz)) (hx:ev l x=some (.pointer (some ⟨g,0+j*sh.sz,none⟩))) (hy:ev l y=some v) (hv:v.cells=us.toArray) (hl:us.length=sz) (h1:us.all fP=true)
 (hA:ArrS sh C D w g xs) (hj:j<xs.length) (hg:g<C\/D<=g) (hr:sh.rep w (fun b=>C<=b/\b<D) z us) :
 B5 P n l (.store t x y) ty w (I9 fun w'=>ArrS sh C D w' g (xs.set j z)/\Fr (· = g) w w'/\w'.heap.size=w.heap.size):=by
 obtain ⟨css,c1,c2,c3⟩:=hA.ex;have hfl:=FT (hA.lens c2 c3);have hus:=sh.len hr;have hjs:j*sh.sz+sh.sz<=css.flatten.length:=by
  rw [hfl,c2,<-Nat.succ_mul];exact Nat.mul_le_mul_right _ hj
 have hd:=GW (P:=P) (n:=n) (l:=l) (ty:=ty) T ht hx hy hv hl h1 c1 (by rw [Nat.ble_eq];omega);unfold B5 at hd ⊢;intro a dst pos after gd next Q ha hn c;refine hd a dst pos after gd next Q ha (fun v' w' h=>h.elim) (fun w' hP=>c w' ?_);have hP':Put w w' g (Bl css.flatten (j*sh.sz) us):=by rw [show j*sh.sz=0+j*sh.sz by omega];exact hP
 exact ⟨XB c2 c3 hj hg hr hP',hP'.fr,hP'.size⟩
def Gl {x y:Operand} {t sz C D g j:Nat} {s:Sk} {v:Value} {us:lV} {xs:List α} {z:α} (T:TabOk P tab) (h:Az tab t=some (s,sz)) (F:ev l x=some (.pointer (some ⟨g,0+j*sh.sz,none⟩))) (G:ev l y=some v) (L:v.cells=us.toArray) (M:us.length=sz) (N:us.all fP=true)
 (O:ArrS sh C D w g xs) (U:j<xs.length) (V:g<C) (X:D<=w.heap.size) (Y:sh.rep w (fun b=>C<=b) z us) :
 B5 P n l (.store t x y) ty w (I9 fun w'=>ArrS sh C w.heap.size w' g (xs.set j z)/\Fr (· = g) w w'/\w'.heap.size=w.heap.size):=
 CJ T h F G L M N (O.wide X) U (bW V) (sh.lt Y)
end
section
variable {P:Program} {n:Nat} {l:Sl} {w:wD} {tab:Tab} {zt:EV} {ty:TypeId}
end
def IA {P:Program} {n:Nat} {l:Sl} {w:wD} {Q:Exit->Act->wD->Prop} {x y:Code} {ι:Type} (L:ι->Sl) (I:ι->wD->Prop) (h:CW P n x (Exit.then (fun a w=> ∃i,Env n (L i) a/\I i w) Q) l w) (k : ∀i w,I i w->CW P n y Q (L i) w):CW P n (.seq x y) Q l w:=
 Y0 _ h (fun a w ⟨i,he,hi⟩=>by have:=k i w hi;unfold CW at this;exact this a he)
def B8 {n:Nat} {l:Sl} {w:wD} {Q:Exit->Act->wD->Prop} {ι:Type} {L:ι->Sl} {I:ι->wD->Prop} (i:ι) (F:U3 (L i) l) (h:I i w):QW n (Exit.then (fun a w=> ∃i,Env n (L i) a/\I i w) Q) .normal l w:=
 To fun _ G=>⟨i,G.sub F,h⟩
def Win (w:wD) (b o:Nat) (vs pre post:lV) (T:TypeId):Prop:=TB w b (pre++vs++post) T/\pre.length=o
section
variable {ρ ρ':Nat->Rl} {κ κ':Nat->Nat} {r:Rl} {S:nP} {w w' w0:wD} {b o:Nat} {vs pre post:lV} {T:TypeId} {e sz n:Nat} {v:Value} {cs:lV}
def Win.ext (h:Win w b o vs pre post T) (x:Ext w w'):Win w' b o vs pre post T:=⟨h.1.ext x,h.2⟩
instance  : LfE w w' (Win w b o vs pre post T) (Win w' b o vs pre post T):=⟨fun x h=>Bk.Win.ext h x⟩
def Win.fr (h:Win w b o vs pre post T) (x:Fr S w w') (F : ¬S b):Win w' b o vs pre post T:=⟨h.1.fr x F,h.2⟩
instance  : LfF S w w' (Win w b o vs pre post T) (¬S b) (Win w' b o vs pre post T):=⟨fun x s h=>Bk.Win.fr h x s⟩
def Win.blk (h:Win w b o vs pre post T):Row w ⟨b,o,none⟩ vs:=by
 have:=Blk.sub h.1.blk o vs.length;obtain ⟨-,rfl⟩:=h;simpa [dP] using this
def KR : ∀(us pre vs post:lV) (i:Nat),i+us.length<=vs.length->Bl (pre++vs++post) (pre.length+i) us=pre++Bl vs i us++post
 | [],_,_,_,_,_=>rfl
 | u::r,pre,vs,post,i,h=>by
  simp only [cF] at h;simp only [Bl];rw [show (pre++vs++post).set (pre.length+i) u=pre++vs.set i u++post by
   rw [dP,List.set_append_right _ _ Ab,show pre.length+i-pre.length=i by omega,List.set_append_left _ _ Ab,<-dP]]
  exact KR r pre (vs.set i u) post (i+1) (by simp;omega)
def CK {P:Program} {m:Nat} {l:Sl} {tab:Tab} {ty:TypeId} {x y:Operand} {t:Nat} {s:Sk} {us:lV} (b o i:Nat) (vs':lV) (TT:TabOk P tab) (ht:Az tab t=some (s,sz)) (hx:ev l x=some (.pointer (some ⟨b,o+i,none⟩))) (hy:ev l y=some v)
 (hv:v.cells=us.toArray) (hl:us.length=sz) (h1:us.all fP=true) (hb:Win w b o vs pre post T) (ho:dW (i+us.length) vs.length=true) (he:Bl vs i us=vs') :
 B5 P m l (.store t x y) ty w (I9 fun w'=>Win w' b o vs' pre post T/\Fr (· = b) w w'/\w'.heap.size=w.heap.size):=by
 unfold B5;intro a dst pos after g next Q ha _ hn;rw [Nat.ble_eq] at ho;obtain ⟨hb,rfl⟩:=hb;obtain ⟨w1,e1,e2,e3⟩:=Fq (P:=P) us w b (pre.length+i) 0 _ hb (by simp only [cP];omega) h1;have e:(execOp a.eval ⟨dst,.store t x y,ty,pos,after,g⟩).run P w = .ok .skip w1:=by
  have hcs:v.cells.toList=us:=by rw [hv]
  have hsz:v.cells.size=sz:=by rw [hv];simpa using hl
  simp only [execOp,ha.ev hx,ha.ev hy,Instr.storeAt,Instr.sureAddr,cU,dC,cG,storeVar,Ck (TT _ _ _ ht),hsz,hcs,e1];simp only [ne_eq,not_true,if_false,cU,dC,cG,e1]
 unfold eL;rw [e];refine hn _ ⟨⟨?_,rfl⟩,e2.fr,e2.size⟩;rw [Nat.add_zero,KR us pre vs post i ho,he] at e3;exact e3
def FA {P:Program} {m:Nat} {l:Sl} {tab:Tab} {ty:TypeId} {x y:Operand} {t:Nat} {s:Sk} {us:lV} (b o:Nat) (h:lV) (F:TabOk P tab) (G:Az tab t=some (s,sz)) (L:ev l x=some (.pointer (some ⟨b,o,none⟩))) (M:ev l y=some v)
 (N:v.cells=us.toArray) (O:us.length=sz) (U:us.all fP=true) (V:Win w b o vs pre post T) (X:dW us.length vs.length=true) (Y:Bl vs 0 us=h) :
 B5 P m l (.store t x y) ty w (I9 fun w'=>Win w' b o h pre post T/\Fr (· = b) w w'/\w'.heap.size=w.heap.size):=
 CK b o 0 h F G L M N O U V (by rw [eJ];exact X) Y
def OwnP (ρ:Nat->Rl) (r:Rl) (w:wD) (e sz:Nat) (v:Value) (n:Nat) (cs:lV):Prop:=Own w 0 e sz v n cs /\ ∀k,v.ownBlock=some k->ρ k=r
def OwnP.ext (h:OwnP ρ r w e sz v n cs) (x:Ext w w'):OwnP ρ r w' e sz v n cs:=⟨h.1.ext x,h.2⟩
instance  : LfE w w' (OwnP ρ r w e sz v n cs) (OwnP ρ r w' e sz v n cs):=⟨fun x h=>Bk.OwnP.ext h x⟩
def OwnP.fr (h:OwnP ρ r w e sz v n cs) (x:Fr S w w') (F : ∀k,S k->ρ k≠r):OwnP ρ r w' e sz v n cs:=⟨h.1.fr x (fun k G L=>F k L (h.2 k G)),h.2⟩
instance  : LfF S w w' (OwnP ρ r w e sz v n cs) (∀k,S k->ρ k≠r) (OwnP ρ r w' e sz v n cs):=⟨fun x s h=>Bk.OwnP.fr h x s⟩
def OwnP.ro (h:OwnP ρ r w e sz v n cs) (x:Ro ρ ρ' w0) (G:w.heap.size<=w0.heap.size):OwnP ρ' r w e sz v n cs:=
 ⟨h.1,fun k F=>by have:=(h.1.blk F).2;rw [x k Ab];exact h.2 k F⟩
def OwnP.move (h:OwnP ρ r w e sz v n cs) (x:Fr S w w') (F : ∀k,S k->ρ k≠r) (G:Ro ρ ρ' w):OwnP ρ' r w' e sz v n cs:=
 ⟨(h.fr x F).1,(h.ro G (cH _)).2⟩
def OwnR.move {xs:List Int} (h:OwnR ρ r w v xs) (x:Fr S w w') (F : ∀k,S k->ρ k≠r) (G:Ro ρ ρ' w):OwnR ρ' r w' v xs:=
 ⟨(h.fr x F).1,(h.ro G (cH _)).2⟩
abbrev Ki (κ:Nat->Nat) (c:Nat):Value:=.pointer (some ⟨κ c,0,none⟩)
structure FrameOk (ρ:Nat->Rl) (κ:Nat->Nat) (w:wD) (j:Nat) (f:Frm) (vv vc:Value):Prop where
 v:OwnP ρ (.vars j) w 66 3 vv f.vars.length (f.vars.flatMap VD.cells)
 c:OwnP ρ (.cels j) w 150 1 vc f.cells.length (f.cells.map (Ki κ))
variable {j:Nat} {f:Frm} {vv vc:Value}
def FrameOk.ext (h:FrameOk ρ κ w j f vv vc) (x:Ext w w'):FrameOk ρ κ w' j f vv vc:=⟨h.v.ext x,h.c.ext x⟩
instance  : LfE w w' (FrameOk ρ κ w j f vv vc) (FrameOk ρ κ w' j f vv vc):=⟨fun x h=>Bk.FrameOk.ext h x⟩
def FrameOk.fr (h:FrameOk ρ κ w j f vv vc) (x:Fr S w w') (G : ∀k,S k->ρ k≠.vars j/\ρ k≠.cels j):FrameOk ρ κ w' j f vv vc:=⟨h.v.fr x (fun k F=>(G k F).1),h.c.fr x (fun k F=>(G k F).2)⟩
instance  : LfF S w w' (FrameOk ρ κ w j f vv vc) (∀k,S k->ρ k≠.vars j/\ρ k≠.cels j) (FrameOk ρ κ w' j f vv vc):=⟨fun x s h=>Bk.FrameOk.fr h x s⟩
def FrameOk.move (h:FrameOk ρ κ w j f vv vc) (x:Fr S w w') (G : ∀k,S k->ρ k≠.vars j/\ρ k≠.cels j) (L:Ro ρ ρ' w) (F : ∀c∈f.cells,κ' c=κ c):FrameOk ρ' κ' w' j f vv vc:=
 ⟨h.v.move x (fun k F=>(G k F).1) L,by
  have:=h.c.move x (fun k F=>(G k F).2) L;rw [show f.cells.map (Ki κ')=f.cells.map (Ki κ) from List.map_congr_left fun c M=>by simp only [Ki,F c M]];exact this⟩
def FramesOk (ρ:Nat->Rl) (κ:Nat->Nat) (w:wD):Nat->List Frm->lV->Prop
 | _,[],cs=>cs=[]
 | j,f::r,cs=> ∃vv vc cs',cs=[vv,vc,.int .i64 f.locals]++cs'/\FrameOk ρ κ w j f vv vc/\FramesOk ρ κ w (j+1) r cs'
def FramesOk.move {S:nP} (x:Fr S w w') (L:Ro ρ ρ' w) : ∀(l:List Frm) (j:Nat) (cs:lV),FramesOk ρ κ w j l cs->(∀k,S k -> ∀i,j<=i->i<j+l.length->ρ k≠.vars i/\ρ k≠.cels i)->(∀f∈l,∀c∈f.cells,κ' c=κ c)->FramesOk ρ' κ' w' j l cs
 | [],_,_,h,_,_=>h
 | f::l,j,cs,⟨vv,vc,F,M,N,V⟩,O,U=>⟨vv,vc,F,M,N.move x (fun k G=>O k G j (cH _) AR) L (U f AR),FramesOk.move x L l (j+1) F V (fun k G i M N=>O k G i Ab (by simp only [cF];omega)) (fun f X=>U f (by simp [X]))⟩
def FramesOk.snoc : ∀(l:List Frm) (j:Nat) (f:Frm) (cs:lV),FramesOk ρ κ w j (l++[f]) cs ↔ ∃h vv vc,cs=h++[vv,vc,.int .i64 f.locals]/\FramesOk ρ κ w j l h/\FrameOk ρ κ w (j+l.length) f vv vc
 | [],j,f,cs=>by
  constructor
  . rintro ⟨vv,vc,L,rfl,M,U⟩;obtain rfl:L=[]:=U;exact ⟨[],vv,vc,rfl,rfl,M⟩
  . rintro ⟨h,vv,vc,rfl,X,M⟩;obtain rfl:h=[]:=X;exact ⟨vv,vc,[],rfl,M,rfl⟩
 | g::l,j,f,cs=>by
  constructor
  . rintro ⟨vv,vc,L,rfl,M,U⟩;obtain ⟨h,F,G,rfl,V,O⟩:=(FramesOk.snoc l (j+1) f L).1 U;exact ⟨[vv,vc,.int .i64 g.locals]++h,F,G,AR,⟨vv,vc,h,rfl,M,V⟩,by rw [cF,show j+(l.length+1)=j+1+l.length by omega];exact O⟩
  . rintro ⟨h,F,G,rfl,⟨vv,vc,N,rfl,M,V⟩,O⟩;refine ⟨vv,vc,N++[F,G,.int .i64 f.locals],AR,M,(FramesOk.snoc l (j+1) f _).2 ⟨N,F,G,rfl,V,?_⟩⟩;rw [cF,show j+(l.length+1)=j+1+l.length by omega] at O;exact O
def FramesOk.len : ∀(l:List Frm) (j:Nat) (cs:lV),FramesOk ρ κ w j l cs->cs.length=l.length*3
 | [],_,_,h=>by obtain rfl:_=[]:=h;rfl
 | f::l,j,cs,⟨vv,vc,F,G,M,L⟩=>by
  have:=FramesOk.len l (j+1) F L;rw [G];simp only [cP,cF,dD];omega
def CellAt (ρ:Nat->Rl) (κ:Nat->Nat) (w:wD) (c:Nat) (xs:List Int):Prop:=ρ (κ c) = .cell c /\ ∃v,Blk w (κ c) [v]/\OwnR ρ (.items c) w v xs
def CellAt.move {c:Nat} {xs:List Int} (h:CellAt ρ κ w c xs) (x:Fr S w w') (L : ∀k,S k->ρ k≠.cell c/\ρ k≠.items c) (M:Ro ρ ρ' w) (F:κ' c=κ c):CellAt ρ' κ' w' c xs:=by
 obtain ⟨N,v,O,U⟩:=h;have G:=O.lt;refine ⟨by rw [F,M _ G,N],v,?_,U.move x (fun k F=>(L k F).2) M⟩;rw [F];exact O.fr x (fun V=>(L _ V).1 N)
def Fresh (ρ:Nat->Rl) (w:wD):Prop:= ∀b,w.heap.size<=b->ρ b = .none
def Fresh.ext (h:Fresh ρ w) (x:Ext w w'):Fresh ρ w':=fun b F=>h b (by have:=x.size;omega)
instance  : LfE w w' (Fresh ρ w) (Fresh ρ w'):=⟨fun x h=>Bk.Fresh.ext h x⟩
def Fresh.mv (h:Fresh ρ w) (x:Fr S w w'):Fresh ρ w':=fun b F=>h b (by have:=x.size;omega)
structure StoreAt (ρ:Nat->Rl) (κ:Nat->Nat) (w:wD) (sb:Nat) (st:Stp):Prop where
 role:ρ sb = .store
 fresh:Fresh ρ w
 frs : ∃bv bc cv tb cs,Blk w sb [bv,bc,.int .i64 st.base.locals,cv,.pointer (some ⟨tb,0,none⟩)]/\FrameOk ρ κ w 0 st.base bv bc/\OwnP ρ .calls w 145 3 cv st.calls.length cs/\FramesOk ρ κ w 1 st.calls cs/\TapeAt ρ w tb st.tin st.tout
 cells : ∀c xs,st.heap[c]? = some xs->CellAt ρ κ w c xs
def LU:Rl->Prop
 | .none | .other _=>False
 | _=>True
variable {sb:Nat} {st:Stp}
def TapeAt.move {tb:Nat} {ti to:List Int} (h:TapeAt ρ w tb ti to) (x:Fr S w w') (F : ∀k,S k->ρ k≠.tape/\ρ k≠.tin/\ρ k≠.tout) (G:Ro ρ ρ' w):TapeAt ρ' w' tb ti to:=by
 obtain ⟨N,⟨U,V,O,X,Y⟩,Z,h6⟩:=h;have L:=O.lt;exact ⟨by rw [G _ L,N],⟨U,V,O.fr x (fun hS=>(F _ hS).1 N),X.move x (fun k M=>(F k M).2.1) G,Y.move x (fun k M=>(F k M).2.2) G⟩,Z,h6⟩
def StoreAt.move (h:StoreAt ρ κ w sb st) (x:Fr S w w') (V : ∀k,S k -> ¬LU (ρ k)) (L:Ro ρ ρ' w) (M:Fresh ρ' w'):StoreAt ρ' κ w' sb st:=by
 obtain ⟨O,-,⟨X,Y,Z,tb,cs,U,h3,h4,h5,h6⟩,h7⟩:=h;have N:=U.lt;have G : ∀ {r:Rl},LU r -> ∀k,S k->ρ k≠r:=fun L k F e=>V k F (by rw [e];exact L)
 exact ⟨by rw [L _ N,O],M,⟨X,Y,Z,tb,cs,U.fr x (fun hS=>G (r:=.store) trivial _ hS O),h3.move x (fun k F=>⟨G (by exact trivial) k F,G (by exact trivial) k F⟩) L (fun _ _=>rfl),h4.move x (G (by exact trivial)) L,FramesOk.move x L _ _ _ h5 (fun k F i _ _=>⟨G (by exact trivial) k F,G (by exact trivial) k F⟩) (fun _ _ _ _=>rfl),h6.move x (fun k F=>⟨G (by exact trivial) k F,G (by exact trivial) k F,G (by exact trivial) k F⟩) L⟩,
  fun c xs hc=>(h7 c xs hc).move x (fun k F=>⟨G (by exact trivial) k F,G (by exact trivial) k F⟩) L rfl⟩
def Fr.none {w w':wD} (x:Ext w w'):Fr (fun _=>False) w w':=.of_ext x
def StoreAt.ext (h:StoreAt ρ κ w sb st) (x:Ext w w'):StoreAt ρ κ w' sb st:=h.move (Fr.none x) (fun _ h=>h.elim) (Ro.refl _ _) (h.fresh.ext x)
instance  : LfE w w' (StoreAt ρ κ w sb st) (StoreAt ρ κ w' sb st):=⟨fun x h=>Bk.StoreAt.ext h x⟩
def StoreAt.fr (h:StoreAt ρ κ w sb st) (x:Fr S w w') (F : ∀k,S k -> ¬LU (ρ k)):StoreAt ρ κ w' sb st:=h.move x F (Ro.refl _ _) (h.fresh.mv x)
instance  : LfF S w w' (StoreAt ρ κ w sb st) (∀k,S k -> ¬LU (ρ k)) (StoreAt ρ κ w' sb st):=⟨fun x s h=>Bk.StoreAt.fr h x s⟩
def CurP (w:wD) (sb fb fo n:Nat):Prop:= ∃x y z a c tp,Blk w sb [x,y,z,.slice a n c,tp]/\((n=0/\fb=sb/\fo=0)\/(0<n/\a=some ⟨fb,0,none⟩/\fo=(n-1)*3))
def CurP.ext {F G:Nat} (h:CurP w sb F G n) (x:Ext w w'):CurP w' sb F G n:=by
 obtain ⟨L,a2,a3,a4,a5,M,N,O⟩:=h;exact ⟨L,a2,a3,a4,a5,M,N.ext x,O⟩
instance {F G:Nat}:LfE w w' (CurP w sb F G n) (CurP w' sb F G n):=⟨fun x h=>Bk.CurP.ext h x⟩
def FB (ρ:Nat->Rl) (j fb k:Nat):Prop:=k=fb\/ρ k = .vars j\/ρ k = .cels j
def P1 (ρ:Nat->Rl) (κ:Nat->Nat) (w:wD) (sb:Nat) (st:Stp) (fb fo:Nat) (pre post:lV) (T:TypeId):Prop:=
 ∀(ρ':Nat->Rl) (κ':Nat->Nat) (w':wD) (f':Frm) (vv' vc':Value),Ro ρ ρ' w->Fresh ρ' w'->(∀f∈st.base::st.calls,∀c∈f.cells,κ' c=κ c)->(∀c,c<st.heap.length->κ' c=κ c)->Fr (FB ρ st.calls.length fb) w w'->Win w' fb fo [vv',vc',.int .i64 f'.locals] pre post T->FrameOk ρ' κ' w' st.calls.length f' vv' vc'->StoreAt ρ' κ' w' sb (st.setCur f')
def StoreAt.open (h:StoreAt ρ κ w sb st) : ∃fb fo pre post T vv vc,CurP w sb fb fo st.calls.length/\(ρ fb = .store\/ρ fb = .calls)/\Win w fb fo [vv,vc,.int .i64 st.cur.locals] pre post T/\FrameOk ρ κ w st.calls.length st.cur vv vc/\P1 ρ κ w sb st fb fo pre post T:=by
 obtain ⟨X,-,⟨bv,bc,cv,tb,cs,⟨Ts,h2⟩,h3,h4,h5,h6⟩,h7⟩:=h;have ai : ∃a c,cv = .slice a st.calls.length c:=by
  rcases h4.1.row with ⟨rfl,O,-⟩|⟨g,cap,rfl,-⟩
  . exact ⟨none,0,by rw [O]⟩
  . exact ⟨_,_,rfl⟩
 obtain ⟨ca,cc,rfl⟩:=ai;have ae:=Blk.lt ⟨Ts,h2⟩;rcases List.eq_nil_or_concat st.calls with L|⟨l,f,L⟩
 . have G:st.cur=st.base:=by unfold Stp.cur;rw [L];rfl
   refine ⟨sb,0,[],[.slice ca st.calls.length cc,.pointer (some ⟨tb,0,none⟩)],Ts,bv,bc,⟨_,_,_,_,_,_,⟨Ts,h2⟩,bW ⟨by rw [L];rfl,rfl,rfl⟩⟩,bW X,⟨by rw [G];exact h2,rfl⟩,by rw [G,L];exact h3,?_⟩;intro ρ' κ' w' f' Y Z U ab F ac x hw hf;have hS : ∀k,FB ρ st.calls.length sb k->ρ k = .store\/ρ k = .vars 0\/ρ k = .cels 0:=fun k F=>by
    rcases F with rfl|h|h
    . exact bW X
    . exact bX (bW (by rw [h,L];rfl))
    . exact bX (bX (by rw [h,L];rfl))
   have M : ∀ {r:Rl},r≠.store->r≠.vars 0->r≠.cels 0 -> ∀k,FB ρ st.calls.length sb k->ρ k≠r:=fun n1 n2 n3 k F e=>by
    rcases hS k F with h|h|h
    . exact n1 (by rw [<-e,h])
    . exact n2 (by rw [<-e,h])
    . exact n3 (by rw [<-e,h])
   have ad:st.setCur f'={ st with base:=f' }:=by unfold Stp.setCur;rw [AG L]
   rw [ad];refine ⟨by rw [U _ ae,X],ab,⟨Y,Z,.slice ca st.calls.length cc,tb,cs,⟨Ts,hw.1⟩,?_,h4.move x (M AR AR AR) U,?_,h6.move x (fun k F=>⟨M AR AR AR k F,M AR AR AR k F,M AR AR AR k F⟩) U⟩,fun c xs hx=>(h7 c xs hx).move x (fun k F=>⟨M AR AR AR k F,M AR AR AR k F⟩) U (ac c (by
    rcases cO c st.heap.length with h|h
    . exact h
    . rw [cI h] at hx;cases hx))⟩
   . rw [L] at hf;exact hf
   . show FramesOk ρ' κ' w' 1 st.calls cs;rw [L] at h5 ⊢;exact h5
 . have G:st.cur=f:=by unfold Stp.cur;rw [L];simp
   have O:st.calls.length=l.length+1:=by rw [L];simp
   rw [L,List.concat_eq_append] at h5;obtain ⟨N,vv,vc,rfl,h8,h9⟩:=(FramesOk.snoc l 1 f cs).1 h5;have aa:=FramesOk.len _ _ _ h8;obtain ⟨aj,ak⟩:=h4;obtain ⟨o1,⟨o2,-⟩|⟨g,cap,cur,o2,o3,o4,o5,o6,o7,o8⟩⟩:=aj
   . simp [O] at o2
   . obtain ⟨rfl,rfl⟩:ca=some ⟨g,0,none⟩/\cc=cap:=by simpa using o2
     have hg:=ak g rfl;have al:sb≠g:=fun e=>by rw [e,hg] at X;cases X
     have V:cur.toList=N++[vv,vc,.int .i64 f.locals]++cur.toList.drop (st.calls.length*3):=by rw [<-o8,List.take_append_drop]
     have af:TB w g (N++[vv,vc,.int .i64 f.locals]++cur.toList.drop (st.calls.length*3)) 145:=by
      unfold TB;rw [o4,<-V]
     refine ⟨g,(st.calls.length-1)*3,N,cur.toList.drop (st.calls.length*3),145,vv,vc,⟨_,_,_,_,_,_,⟨Ts,h2⟩,bX ⟨Ab,rfl,rfl⟩⟩,bX hg,⟨by rw [G];exact af,by rw [aa,O];rfl⟩,by rw [G,O,Nat.add_comm];exact h9,?_⟩;intro ρ' κ' w' f' Y Z U ab F ac x hw hf;have M : ∀ {r:Rl},r≠.calls->r≠.vars st.calls.length->r≠.cels st.calls.length -> ∀k,FB ρ st.calls.length g k->ρ k≠r:=fun n1 n2 n3 k F e=>by
      rcases F with rfl|h|h
      . exact n1 (by rw [<-e,hg])
      . exact n2 (by rw [<-e,h])
      . exact n3 (by rw [<-e,h])
     have ad:st.setCur f'={ st with calls:=l++[f'] }:=by
      unfold Stp.setCur;rw [As (by rw [L];simp),L];simp
     have ag : ∀i,i<st.calls.length -> ∀k,FB ρ st.calls.length g k->ρ k≠.vars i/\ρ k≠.cels i:=fun i hi k F=>⟨M AR (by simp;omega) AR k F,M AR AR (by simp;omega) k F⟩
     have am:g<w.heap.size:=af.blk.lt;rw [ad];refine ⟨by rw [U _ ae,X],ab,⟨bv,bc,.slice (some ⟨g,0,none⟩) (l++[f']).length cc,tb,N++[Y,Z,.int .i64 f'.locals],?_,h3.move x (ag 0 Ab) U (F _ AR),⟨?_,fun k F=>?_⟩,(FramesOk.snoc l 1 f' _).2 ⟨N,Y,Z,rfl,FramesOk.move x U l 1 N h8 (fun k F i X h2=>ag i Ab k F) (fun f hf=>F f (by rw [L];simp [hf])),?_⟩,h6.move x (fun k F=>⟨M AR AR AR k F,M AR AR AR k F,M AR AR AR k F⟩) U⟩,fun c xs hx=>(h7 c xs hx).move x (fun k F=>⟨M AR AR AR k F,M AR AR AR k F⟩) U (ac c (by
      rcases cO c st.heap.length with h|h
      . exact h
      . rw [cI h] at hx;cases hx))⟩
     . have:(l++[f']).length=st.calls.length:=by rw [O];simp
       rw [this];exact fB ⟨Ts,h2⟩ x (fun h=>by
        rcases h with h|h|h
        . exact al h
        . rw [X] at h;cases h
        . rw [X] at h;cases h)
     . have an:(l++[f']).length=st.calls.length:=by rw [O];simp
       rw [an];have ah:=hw.1;unfold TB at ah;refine ⟨by simp [aa,O];omega,bX ⟨g,cc,_,rfl,cQ _,ah,o5,o6,?_,?_⟩⟩
       . have:=congrArg List.length V;simp only [Array.length_toList] at this;simp only [List.size_toArray];rw [o7] at this;simp only [cP,cF,dD] at this ⊢;omega
       . simp only [List.toList_toArray];rw [List.take_append_of_le_length (by simp [aa,O];omega)];rw [List.take_of_length_le (by simp [aa,O];omega)]
     . simp only [eR,cE] at F;rw [<-F,U _ am,hg]
     . rw [O,Nat.add_comm] at hf;exact hf
end
section
variable {P:Program} {n:Nat} {l:Sl} {S:wD->Prop} {tab:Tab} {ty:TypeId}
def Ei {x y:Operand} {t e G sz len cap m:Nat} {V:Sk} {a:oA} {k:IntKind} {N:Int} (T:TabOk P tab) (X:Az tab t=some (.slice e,G)) (Y:Az tab e=some (V,sz)) (Z:ev l x=some (.slice a len cap)) (hy:ev l y=some (.int k N)) (L:N=(m:Int)) (hm:m<=cap) :
 BB P n l S (.slice t x none (some y) none) ty (.slice a m cap):=by
 subst L;unfold BB;intro aa w ab pos after g O _;have U:P.underlying t=some (.slice e):=(T _ _ _ X).under;have h:P.elem t=e:=by simp [Program.elem,U]
 have F:P.underlying t=some (.slice (P.elem t)):=by rw [h];exact U
 obtain ⟨i,hi,hs⟩:=(T _ _ _ Y).info;have M:(Go.sizeOf e).run P w = .ok sz w:=by simp [Go.sizeOf,typeInfo,program,Sem.run,bind,Sem.bind,pure,hi,hs]
 have h1:(Instr.sliceAt t (.slice a len cap) none (some (.int k (m:Int))) none).run P w = .ok (.slice a m cap) w:=by
  rw [run_sliceAt_slice w t _ _ _ _ F,run_slice_h w t a len cap F k m Ab Ab];rw [h,M];cases a<;>simp [cG,sliced,eG]
 simp [execOp,O.ev Z,O.ev hy,cU,h1,cG]
end
mutual
def LV {S:nP} {w:wD} : ∀(l:List Nd) (a:oA),rowSits S w l a->rowSits (· < w.heap.size) w l a
 | [],_,_=>by simp [rowSits]
 | t::r,a,h=>by
  simp only [rowSits] at h ⊢;obtain ⟨b,o,a',c,rfl,hb,h0,h1,h2,h3,hs,hr⟩:=h;exact ⟨b,o,a',c,rfl,Co h0,h0,h1,h2,h3,SN t a' hs,LV r _ hr⟩
def SN {S:nP} {w:wD} : ∀(t:Nd) (a:oA),t.sits S w a->t.sits (· < w.heap.size) w a
 | .mk _ _ _ l,a,h=>by
  simp only [Nd.sits] at h ⊢;exact LV l a h
end
mutual
def KS {S:nP} {w:wD} : ∀(l:List Nd) (a:oA),rowSits S w l a->rowSits (fun b=>S b/\b<w.heap.size) w l a
 | [],_,_=>by simp [rowSits]
 | t::r,a,h=>by
  simp only [rowSits] at h ⊢;obtain ⟨b,o,a',c,rfl,hb,h0,h1,h2,h3,hs,hr⟩:=h;exact ⟨b,o,a',c,rfl,⟨hb,Co h0⟩,h0,h1,h2,h3,P2 t a' hs,KS r _ hr⟩
def P2 {S:nP} {w:wD} : ∀(t:Nd) (a:oA),t.sits S w a->t.sits (fun b=>S b/\b<w.heap.size) w a
 | .mk _ _ _ l,a,h=>by
  simp only [Nd.sits] at h ⊢;exact KS l a h
end
def Ib (k:Int) (w:wD) (N:0<=k) (O:k<=255):Calls prog 69 #[.int .u8 k] w fun e w'=>e = .returned (.int .u8 (Bd k))/\w=w':=by
 refine Ac func69 ntmps69 rfl rfl ?_
 focus
  refine eK ?_;refine Ay rfl (fun F=>?_) (fun F=>?_);refine eK ?_;refine xR ?_;rotate_left;refine eK ?_;refine Ay rfl (fun c2=>?_) (fun c2=>?_);refine eK ?_;refine xR ?_;rotate_left;refine eK ?_;refine Ay rfl (fun c3=>?_) (fun c3=>?_);refine eK ?_;refine xR ?_;rotate_left;refine eK ?_;refine Ay rfl (fun c4=>?_) (fun c4=>?_);refine eK ?_;refine xR ?_;rotate_left;refine eK ?_;refine Ay rfl (fun c5=>?_) (fun c5=>?_);refine eK ?_;refine xR ?_;rotate_left;refine eK ?_;refine Ay rfl (fun G=>?_) (fun G=>?_);refine eK ?_;refine xR ?_;rotate_left;refine eK ?_;refine Ay rfl (fun L=>?_) (fun L=>?_);refine eK ?_;refine xR ?_;rotate_left;refine eK ?_;refine Ay rfl (fun M=>?_) (fun M=>?_);refine eK ?_;refine xR ?_;rotate_left;refine eK ?_;refine Ay rfl (fun c9=>?_) (fun c9=>?_);refine eK ?_;refine xR ?_;rotate_left;refine eK ?_;refine Ay rfl (fun h=>?_) (fun h=>?_);refine eK ?_;refine xR ?_;rotate_left;refine eK ?_;refine xR ?_;rotate_left
 all_goals (refine ⟨congrArg (fun x=>Ending.returned (.int .u8 x)) ?_,rfl⟩;unfold Bd;(repeat' split)<;>omega)
def CopyR (u:Nd) (w:wD):Ending->wD->Prop:=fun e w'=> ∃a c,e = .returned (u.val a c)/\u.sits (fun b=>w.heap.size<=b/\b<w'.heap.size) w' a/\Ext w w'
def CopyR.ret {u:Nd} {w:wD} {e:Ending} {w':wD} (h:CopyR u w e w') : ∃v,e = .returned v:=by
 obtain ⟨_,_,h,-⟩:=h;exact ⟨_,h⟩
def CopyC (u:Nd) (w:wD):Ending->wD->Prop:=fun e w'=> ∃a c,e = .returned (u.val a c)/\u.sits (fun b=>w.heap.size<=b/\b<w'.heap.size) w' a/\Ext w w'/\u.kids.length<=c
def CopyC.ret {u:Nd} {w:wD} {e:Ending} {w':wD} (h:CopyC u w e w') : ∃v,e = .returned v:=by
 obtain ⟨_,_,h,-⟩:=h;exact ⟨_,h⟩
def CopyC.copy {u:Nd} {w:wD} {e:Ending} {w':wD} (h:CopyC u w e w'):CopyR u w e w':=by
 obtain ⟨a,c,F,G,L,-⟩:=h;exact ⟨a,c,F,G,L⟩
def SO {w:wD} {b e sz n c:Nat} {a:oA} {cs:lV} (h:Own w b e sz (.slice a n c) n cs):n<=c:=by
 rcases h.2 with ⟨F,-⟩|⟨g',G,cur,F,-,-,L,-⟩
 . simp only [dI] at F;omega
 . simp only [dI] at F;obtain ⟨-,-,rfl⟩:=F;exact L
def E4 {S:nP} {w:wD} {k n:Int} {s:lB} {l:List Nd} {a:oA} (h:(Nd.mk k n s l).sits S w a):rowSits S w l a:=h
def XC (N:Nat) : ∀(t:Nd) (S:nP) (a:oA) (c:Nat) (w:wD),t.size<N->t.size<=1000000->t.sits S w a->Calls prog 36 #[t.val a c] w (CopyC t w):=by
 induction N with
 | zero=>intro t S a c w h;omega
 | succ N ih=>
  rintro ⟨k,n,s,l⟩ S a c w hN hM L;have ar:=C0 l;simp only [Nd.size] at hN hM;have hC : ∀x∈l,∀(S:nP) (a:oA) (c:Nat) (w:wD),x.sits S w a->Calls prog 36 #[x.val a c] w (CopyC x w):=fun x hx S a c w h=>by
   have:=Cz hx;exact ih x S a c w Ab Ab h
  clear ih;have HC:=bU hC;clear hC;have L:=BV _ _ (E4 L);have X:=eU w;refine Ac func36 ntmps36 rfl rfl ?_;refine cS (eB [_,_,_,_] ?_);intro b1 w2 h4 x5 p6 z7;revert L X;refine eE x5 ?_;intro L X;refine eA [_,_,_,_] ?_;intro b8 w9 ad al a7 a8;revert h4 L X;refine eE al ?_;intro h4 L X;refine cN (C1 Pa (cT (Ai (cS (C1 Pf (C1 (Pl h4) (C1 Pz (C1 Mv (cT (Av ?_))))))))));have a9:b8+1=w9.heap.size:=by omega
  refine A1 (ι:=Nat×List Nd×oA×Nat) (fun x=>[(1,.pointer (some ⟨b1,0,none⟩)),(2,.pointer (some ⟨b8,0,none⟩)),(3,.slice x.2.2.1 x.2.1.length x.2.2.2),(7,.slice a l.length c),(8,.int .i64 l.length),(9,.int .i64 x.1)])
   (fun x w'=>OwnL ndShape w' (b8+1) 26 (.slice x.2.2.1 x.2.1.length x.2.2.2) x.2.1/\x.1<=l.length/\x.2.1=l.take x.1/\rowSits (· < w.heap.size) w' l a/\Blk w' b1 [.int .u8 k,.int .i64 n,str s,.slice a l.length c]/\Blk w' b8 [.int .u8 0,.int .i64 0,str [],.slice none 0 0]/\Ext w w'/\b8+1<=w'.heap.size)
   (fun x=>l.length-x.1) (0,[],none,0) sB ⟨OwnL.nil,cQ _,rfl,L,h4,ad,X,Ab⟩ ?_
  clear L h4 ad X;rintro ⟨j,xs,ra,rc⟩ w1 ⟨F,hj,U,L,M,G,X,hg⟩;simp only at F hj U L M G X hg;have am : ∀g,(cY ra xs.length rc).ownBlock=some g->g<w1.heap.size:=fun g h=>F.lt h
  have ba:xs.length<=l.length:=by rw [U,eH];omega
  refine CW.sub (m:=[(1,.pointer (some ⟨b1,0,none⟩)),(2,.pointer (some ⟨b8,0,none⟩)),(3,.slice ra xs.length rc),(7,.slice a l.length c),(8,.int .i64 l.length),(9,.int .i64 j)]) ?_ sB;by_cases V:j<l.length
  . obtain ⟨kb,ko,rfl,kS,aa⟩:=BA L (by intro e;subst e;simp at V);obtain ⟨xa,xc,rx,sx⟩:=aa j l[j] (bT V);have hz:=Cz (cL V);have HX:=bU (HC.out l[j] (cL V));have ac:xs++[l[j]]=l.take (j+1):=by rw [U,dG V]
    clear aa HC U;generalize l[j]=x at *;refine eK ?_;refine xA [_,_,_,_] ?_;intro bb bc an;refine eI [_,_,_,_] an ?_;intro bd Y ao be bf;revert F G X L M rx sx;refine eE ao ?_;intro F G X L M rx sx;refine eK ?_;refine eQ rfl (HX.out _ _ _ _ Ae) ?_;rintro _ au ⟨bg,⟨av,⟨⟨⟩,⟨Z,⟨ae,aw⟩⟩⟩⟩⟩;revert Y F G X L M rx sx;refine eY ae ?_;intro ax Y F G X L M rx sx;refine AC (xS [_,_,_,_]) rfl ?_ aFh;rintro _ ay ⟨az,rfl,O,a0⟩;have af:=O.blk;have ag:=O.ext;have a1:=O.pos;have a2:=O.size;revert Z Y F G X L M rx sx;refine eE ag ?_;intro Z Y F G X L M rx sx;refine C7 (sh:=ndShape) (z:=x) Ad CY rfl rfl rfl rfl A9 rfl rfl rfl F (fN Ae) ⟨_,_,rfl,eX Ae (fun b h=>⟨Ab,fun e=>by have:=am _ e;omega⟩)⟩ Ab Ab rfl ?_;rintro a3 ah a4 a5 ab;have a6:=ab.size;clear af Z Y F;revert G X L M rx sx;refine eF ab ?_;intro G X L M rx sx;refine C1 Pa (Ak (Af (Ag (Aj (C1 V7 (C1 Mv (Ak ?_)))))));refine AI (j+1,xs++[x],some ⟨_,0,none⟩,_) sB ⟨Ae,by simp only;omega,ac,L,M,G,X,Ab⟩ Ab
  . obtain rfl:j=l.length:=by omega
    rw [dB] at U;subst U;refine eK ?_;refine eV [_] [_,_,_,_] M ?_;intro bh ai ap bi;revert F G X L;refine eF ap ?_;intro F G X L;refine eK ?_;refine eS [_,_,_,_] G ?_;intro bj aj aq bk;revert ai F X L;refine eF aq ?_;intro ai F X L;refine eK ?_;refine xC aj ?_;have ak:=SO F.ex.choose_spec.1;exact ⟨ra,rc,rfl,P2 (Nd.mk k n s xs) ra (Iy (F.sits (S:=fun b=>w.heap.size<=b) (fun b h=>by omega))),X,ak⟩
def SP (t:Nd) (h:t.size<=1000000) (S:nP) (a:oA) (c:Nat) (w:wD) (F:t.sits S w a):Calls prog 36 #[t.val a c] w (CopyC t w):=XC (t.size+1) t S a c w Ab h F
def OB (t:Nd) (F:t.size<=1000000) (S:nP) (a:oA) (c:Nat) (w:wD) (G:t.sits S w a):Calls prog 36 #[t.val a c] w (CopyR t w):=dY (SP t F S a c w G) (fun _ _ h=>h.copy)
def P3 (xs ys:List Nd) (i:Nat):Prop:=ys.length=xs.length /\ ∀k,k<xs.length->ys[k]? = if k<i\/xs.length-i<=k then xs[xs.length-1-k]? else xs[k]?
def XD (xs:List Nd):P3 xs xs 0:=⟨rfl,fun k h=>by rw [As Ab]⟩
def Uc {xs ys:List Nd} {i:Nat} (h:P3 xs ys i) (G:xs.length<=2*i+1):ys=xs.reverse:=by
 apply List.ext_getElem?;intro k;by_cases F:k<xs.length
 . rw [h.2 k F,List.getElem?_reverse F];split
   . rfl
   . have:xs.length-1-k=k:=by omega
     rw [this]
 . rw [cI (by rw [h.1];omega),cI (by rw [List.length_reverse];omega)]
def RL {xs ys:List Nd} {i:Nat} (h:P3 xs ys i) (U:2*i+1<xs.length) {x y:Nd} (F:ys[i]? = some x) (G:ys[xs.length-1-i]? = some y):P3 xs ((ys.set i y).set (xs.length-1-i) x) (i+1):=by
 refine ⟨by simp [h.1],fun k O=>?_⟩;have V:=h.1;rw [h.2 i Ab,As Ab] at F;rw [h.2 (xs.length-1-i) Ab,As Ab] at G;by_cases L:k=xs.length-1-i
 . subst L;rw [List.getElem?_set_self (by simp [h.1];omega),AG Ab,show xs.length-1-(xs.length-1-i)=i by omega,F]
 . rw [List.getElem?_set_ne (fun e=>L e.symm)];by_cases M:k=i
   . subst M;rw [List.getElem?_set_self Ab,AG Ab,G]
   . rw [List.getElem?_set_ne (fun e=>M e.symm),h.2 k O];by_cases N:k<i\/xs.length-i<=k
     . rw [AG N,AG Ab]
     . rw [As N,As Ab]
def Ud (C D g cap:Nat) (xs:List Nd) (w:wD) (hA:ArrS ndShape C D w g xs) (hg:g<C\/D<=g) (hl:xs.length<=1000000):Calls prog 68 #[.slice (some ⟨g,0,none⟩) xs.length cap] w fun e w'=>e = .returned (.tuple #[])/\ArrS ndShape C D w' g xs.reverse/\Fr (· = g) w w':=by
 have X:=fC (· = g) w
 by_cases hn:xs.length=0
 . have e0:xs=[]:=List.eq_nil_of_length_eq_zero hn;subst e0;refine Ac func68 ntmps68 rfl rfl ?_
   refine eK ?_;refine C1 (Bq rfl rfl (dA _ (by omega))) (C1 Pa (C1 Pa (cT (Av ?_))))
   refine A1 (ι:=Unit) (fun _=>[(2,.int .i64 0),(3,.int .i64 (-1))]) (fun _ w'=>ArrS ndShape C D w' g []/\Fr (· = g) w w') (fun _=>0) () sB ⟨hA,X⟩ ?_;rintro _ w1 ⟨hA,X⟩
   refine Ai (cS (C1 Mv (C1 Mv (C1 V3 (cT (Np (Eg (A8 (A8 (BQ (Bs rfl ?_)))))))))))
   exact ⟨rfl,hA,X⟩
 refine Ac func68 ntmps68 rfl rfl ?_
 refine eK ?_;refine C1 (Bq rfl rfl (dA _ (by omega))) (C1 Pa (C1 Pa (cT (Av ?_))))
 obtain ⟨m0,hm0⟩ : ∃m:Nat,((xs.length:Int)-1)=(m:Int):=⟨xs.length-1,by omega⟩;rw [hm0];refine A1 (ι:=Nat×Nat×List Nd) (fun x=>[(0,.slice (some ⟨g,0,none⟩) xs.length cap),(2,.int .i64 x.1),(3,.int .i64 x.2.1)]) (fun x w'=>ArrS ndShape C D w' g x.2.2/\P3 xs x.2.2 x.1/\x.1+x.2.1+1=xs.length/\Fr (· = g) w w') (fun x=>x.2.1) (0,m0,xs) sB ⟨hA,XD xs,by simp only;omega,X⟩ ?_;clear hA X hm0;rintro ⟨i,m,ys⟩ w1 ⟨hA,hR,hm,X⟩;simp only at hA hR hm;refine CW.sub (m:=[(0,.slice (some ⟨g,0,none⟩) xs.length cap),(2,.int .i64 i),(3,.int .i64 m)]) ?_ sB;have hyl:=hR.1
 by_cases hlt:i<m
 . obtain ⟨x,hx⟩ : ∃x,ys[i]? = some x:=⟨_,bT (by omega)⟩;obtain ⟨y,hy⟩ : ∃y,ys[m]? = some y:=⟨_,bT (by omega)⟩;obtain ⟨_,r1,xa,xc,rfl,sx⟩:=hA.row hx;obtain ⟨_,r2,ya,yc,rfl,sy⟩:=hA.row hy;have hR2:=RL hR (by omega) hx (show ys[xs.length-1-i]? = some y by rw [show xs.length-1-i=m by omega];exact hy);rw [show xs.length-1-i=m by omega] at hR2;clear hR hx hy;replace r1:Row w1 ⟨g,0+i*4,none⟩ _:=r1;replace r2:Row w1 ⟨g,0+m*4,none⟩ _:=r2
   refine eK ?_;refine GF (fun wz=>Ext w1 wz) (fun wz=>Fr (fun x=>x=g) w1 wz) [2,3,13,14,15] [2,3] 13 14 (.free 2 (.free 3 (.pure 0 (.pure 1 (.pure 4 (.pure 5 (.pure 6 (.pure 7 (.pure 8 (.pure 9 (.pure 10 (.pure 11 (.pure 12 (.put 13 (.tail 14))))))))))))))) (fun _ h=>fE h) mixed (by kernel_rfl) (Al (Aa (Aa (Al Ah)))) ?_;intro wc1 xc2 _;have qsc3:(fun wz=>Ext w1 wz) wc1:=xc2;simp only at qsc3;have qtc4:(fun wz=>Fr (fun x=>x=g) w1 wz) wc1:=fE xc2;simp only at qtc4;have d_hA:=hA;have d_sx:=sx;have d_sy:=sy;have d_r1:=r1;have d_r2:=r2;revert hA X sx sy r1 r2;refine eY xc2 ?_;intro zc5 hA X sx sy r1 r2;refine BI ‹_› rfl (AL rfl) rfl (BI ‹_› rfl (AL rfl) rfl (Ap ‹_› rfl (AL rfl) rfl (Ap ‹_› rfl (AL rfl) rfl (Ap ‹_› rfl (AL rfl) rfl (Ap ‹_› rfl (AL rfl) rfl (Ap ‹_› rfl (Bf Ad rfl rfl rfl rfl (by omega) (by omega)) rfl (Ap ‹_› rfl (Cl Ad rfl rfl rfl (fun wz hz=>(fL d_r2 hz)) rfl) rfl (Ap ‹_› rfl (AL rfl) rfl (Ap ‹_› rfl (AL rfl) rfl (Ap ‹_› rfl (Bf Ad rfl rfl rfl rfl (by omega) (by omega)) rfl (Ap ‹_› rfl (Cl Ad rfl rfl rfl (fun wz hz=>(fL d_r1 hz)) rfl) rfl ?_)))))))))))
   refine Ap ‹_› rfl (Bf Ad rfl rfl rfl rfl (by omega) (by omega)) rfl (EI rfl (CJ (sh:=ndShape) (j:=i) (z:=y) (us:=[_,_,_,_]) Ad rfl rfl rfl rfl rfl rfl hA (by omega) hg ⟨_,_,rfl,by assumption⟩) (Cg ?_));rintro _ wc9 ⟨hc6,⟨fc7,hc8⟩⟩;have zc10:=fc7.size;replace qtc4:=qtc4.fr fc7 (by omega);clear hA;revert X sx sy;refine eF fc7 ?_;intro X sx sy;refine ⟨by assumption,?_⟩;refine EH rfl (C1 Pi (Br (CJ (sh:=ndShape) (j:=m) (z:=x) (us:=[_,_,_,_]) Ad rfl rfl rfl rfl rfl rfl ‹_› (by rw [List.length_set];omega) hg ⟨_,_,rfl,by assumption⟩) (Cg ?_)));rintro _ wc14 ⟨hc11,⟨fc12,hc13⟩⟩;have zc15:=fc12.size;revert X sx sy;refine eF fc12 ?_;intro X sx sy;refine eK ?_;refine C1 (Bq rfl rfl (dA _ (by omega))) (C1 Pa (C1 Pa (Ak ?_)))
   refine AI (i+1,m-1,(ys.set i y).set m x) (by (refine AQ rfl ?_;refine AQ rfl ?_;refine Bx rfl (by go_num) ?_;exact Cy)) ⟨by assumption,hR2,by simp only;omega,X⟩ (by simp only;omega)
 . have e:=Uc hR (by omega);subst e
   refine Ai (cS (C1 Mv (C1 Mv (C1 V3 (cT (Ds (Eg (A8 (A8 (BQ (Bs rfl ?_)))))))))))
   exact ⟨rfl,hA,X⟩
def Dv (q:Bool) (k:Int) (x:Nd):Nd:=if k=57\/x.kind=57 then x.inv q else x
def RM (q:Bool) (l:List Nd):B3 q l=l.map (Dv q 57):=by
 induction l with
 | nil=>rfl
 | cons t r h=>simp only [B3,List.map_cons,h,Dv,true_or,if_true]
def P4 (q:Bool) {k:Int} (h:k≠57) (l:List Nd):DN q l=l.map (Dv q k):=by
 induction l with
 | nil=>rfl
 | cons t r F=>simp only [DN,List.map_cons,F,Dv,h,false_or]
def Gx (f:Nd->Nd) (l:List Nd) (j:Nat):List Nd:=(l.take j).map f++dJ (l.length-j) BO
def RN (f:Nd->Nd) (l:List Nd) (j:Nat) (h:j<=l.length):(Gx f l j).length=l.length:=by
 simp only [Gx,cP,List.length_map,eH,List.length_replicate];omega
def RO (f:Nd->Nd) (l:List Nd) (j:Nat) (h:j<l.length):(Gx f l j).set j (f l[j])=Gx f l (j+1):=by
 unfold Gx;have F:((l.take j).map f).length=j:=by simp;omega
 rw [List.set_append_right _ _ Ab,F,Nat.sub_self,show l.length-j=(l.length-(j+1))+1 by omega,List.replicate_succ,List.set_cons_zero,dG h,List.map_append,dP];rfl
def RP (f:Nd->Nd) (l:List Nd):Gx f l l.length=l.map f:=by simp [Gx]
def RQ {k n:Int} {s:lB} {l:List Nd} (h:(Nd.mk k n s l).isStmt=true\/(Nd.mk k n s l).isBlock=true):(∀x∈l,k=57\/x.kind=57->x.isStmt=true\/x.isBlock=true)/\(k=52\/k=53\/k=54->l≠[])/\40<=k/\k<=57:=by
 rcases h with h|h
 . have U:=Ns h;simp only [Nd.kind] at U;have F : ∀x:Nd,x.isExpr=true -> ¬x.kind=57:=fun x F=>by have:=GG F;omega
   have key : ∀x∈l,x.isBlock=true\/x.isExpr=true:=by
    cases BT h with
    | call _ _ _ V=>intro x F;exact bX (G0 (List.all_eq_true.1 V x F))
    | upd _ G M=>intro x F;simp only [dQ,eP,or_false] at F;rcases F with rfl|rfl<;>first|exact bX (A0 Ae)|exact bX Ae
    | swap G M=>intro x F;simp only [dQ,eP,or_false] at F;rcases F with rfl|rfl<;>exact bX (A0 Ae)
    | stack _ _ G=>intro x F;simp only [dQ,eP,or_false] at F;rw [F];exact bX (A0 G)
    | tape _ G=>intro x F;simp only [dQ,eP,or_false] at F;rw [F];exact bX (A0 G)
    | branch _ G M X h4=>intro x F;simp only [dQ,eP,or_false] at F;rcases F with rfl|rfl|rfl|rfl<;>first|exact bX Ae|exact bW Ae
    | local_ _ G M X=>intro x F;simp only [dQ,eP,or_false] at F;rcases F with rfl|rfl|rfl<;>first|exact bX Ae|exact bW Ae
    | lstack _ G=>intro x F;simp only [dQ,eP,or_false] at F;rw [F];exact bW G
   refine ⟨fun x N L=>?_,fun L=>?_,Ab,Ab⟩
   . rcases L with rfl|L
     . omega
     . rcases key x N with Y|Z
       . exact bX Y
       . exact absurd L (F x Z)
   . rintro rfl;cases BT h with
     | call aa=>omega
 . obtain ⟨e,O⟩:=DT h;simp only [Nd.kids,Nd.mk.injEq,and_true] at e O;obtain ⟨rfl,-,-⟩:=e;exact ⟨fun x F _=>bW (rowStmt_iff.1 O x F),fun L=>by omega,Ab,Ab⟩
def P5 (q:Bool) {k n:Int} {s:lB} {l:List Nd} (hk : ¬k=57):(Nd.mk k n s l).inv q=if k=52\/k=53\/k=54 then .mk k n s (GH (l.map (Dv q k))) else .mk (if k=50\/k=51 then (if q then k else Bd k) else Bd k) n s (l.map (Dv q k)):=by
 conv=>lhs;unfold Nd.inv
 rw [As hk,P4 q hk];by_cases h1:k=52\/k=53\/k=54
 . rw [AG h1,AG h1]
 . rw [As h1,As h1];by_cases h2:k=50\/k=51
   . rw [AG h2,AG h2]
   . rw [As h2,As h2]
def P6 (w:wD) (S:nP):ndShape.rep w S BO [.int .u8 0,.int .i64 0,.string ⟨#[]⟩,.slice none 0 0]:=⟨none,0,rfl,CZ⟩
def ArrS.sits {C D g:Nat} {w:wD} {xs:List Nd} (h:ArrS ndShape C D w g xs) {S:nP} (G:S g) (L : ∀b,C<=b->b<D->S b):rowSits S w xs (some ⟨g,0,none⟩):=
 Em G xs 0 (fun i x M=>by
  obtain ⟨cs,N,a,c,rfl,O⟩:=h.row M;exact ⟨a,c,N,eX O (fun b F=>L b F.1 F.2)⟩)
def D6 {C g:Nat} {w w':wD} {k n:Int} {s:lB} {xs:List Nd} {m:Nat} (G:xs.length=m) (h:ArrS ndShape C w'.heap.size w' g xs) (L:w.heap.size<=g) (N:w.heap.size<=C) (X:Ext w w'):CopyR (.mk k n s xs) w (.returned (.agg #[.int .u8 k,.int .i64 n,str s,.slice (some ⟨g,0,none⟩) m m])) w':=by
 subst G;exact ⟨some ⟨g,0,none⟩,xs.length,rfl,Iy (h.sits ⟨L,h.lt⟩ (fun b M F=>⟨Ab,F⟩)),X⟩
def VA (q:Bool) (N:Nat) : ∀(t:Nd) (S:nP) (a:oA) (c:Nat) (w:wD),t.size<N->t.size<=1000000->(t.isStmt=true\/t.isBlock=true)->t.sits S w a->Calls prog 39 #[t.val a c,.bool q] w (CopyR (t.inv q) w):=by
 induction N with
 | zero=>intro t S a c w h;omega
 | succ N ih=>
  rintro ⟨k,n,s,l⟩ S a c w hN hM hv hs;have hlen:=C0 l;simp only [Nd.size] at hN hM;obtain ⟨v1,v2,v3,v4⟩:=RQ hv;clear hv
  have hC : ∀x∈l,(k=57\/x.kind=57) -> ∀(S:nP) (a:oA) (c:Nat) (w:wD),x.sits S w a->Calls prog 39 #[x.val a c,.bool q] w (CopyR (x.inv q) w):=fun x hx hk S a c w h=>by
   have:=Cz hx
   exact ih x S a c w (by omega) (by omega) (v1 x hx hk) h
  clear ih v1;have HC:=bU hC;clear hC;replace hs:=BV _ _ (E4 hs);have X:=eU w;refine Ac func39 ntmps39 rfl rfl ?_
  refine cS (eB [_,_,_,_] ?_);intro b1 w2 h4 x5 p6 z7;revert hs X;refine eE x5 ?_;intro hs X;refine eA [_,_,_,_] ?_;intro b8 w9 h12 x13 p14 z15;revert h4 hs X;refine eE x13 ?_;intro h4 hs X;refine cT ?_
  refine IA (ι:=Nat×Nat) (fun x=>[(1,.bool q),(2,.pointer (some ⟨b1,0,none⟩)),(4,.pointer (some ⟨b8,0,none⟩)),(5,.pointer (some ⟨x.1,0,none⟩))])
   (fun x w'=>ArrS ndShape (b1+4) (b1+4) w' x.2 (dJ l.length BO)/\Blk w' x.1 [.int .u8 k,.int .i64 n,str s,.slice (some ⟨x.2,0,none⟩) l.length l.length]/\b8<x.1/\b8<x.2/\x.1≠x.2/\x.1<b1+4/\x.2<b1+4/\Blk w' b1 [.int .u8 k,.int .i64 n,str s,.slice a l.length c]/\Blk w' b8 [.int .u8 0,.int .i64 0,str [],.slice none 0 0]/\rowSits (· < w.heap.size) w' l a/\Ext w w'/\w'.heap.size=b1+4) ?_ ?_
  . focus
     refine Ar (fun wz=>Ext w9 wz) 12 (.pure 0 (.pure 1 (.pure 2 (.pure 3 (.pure 4 (.pure 5 (.pure 6 (.pure 7 (.pure 8 (.fork 9 (.pure 10 (.fork 11 .tail .none)) (.fork 11 (.fork 9 (.pure 10 .tail) .none) .none))))))))))) mixed (by kernel_rfl) (Aa Ah) ?_;intro wa1 xa2 _;have qsa3:(fun wz=>Ext w9 wz) wa1:=xa2;simp only at qsa3;have d_h12:=h12;have d_h4:=h4;have d_hs:=hs;revert h12 h4 hs X;refine eY xa2 ?_;intro za4 h12 h4 hs X;refine ⟨qsa3,?_⟩;refine eT ?_;refine Ax rfl (FH (sh:=ndShape) (C:=b1+4) (D:=b1+4) (N:=l.length) (z:=BO) Ad CY rfl rfl rfl rfl (by kernel_rfl) rfl rfl (by omega) P6) rfl ?_ (fun _ h=>h) ?kra5;rintro _ wa11 ⟨ga6,⟨rfl,⟨ha7,⟨ha8,⟨ha9,xa10⟩⟩⟩⟩⟩;revert qsa3 h12 h4 hs X;refine eY xa10 ?_;intro za12 qsa3 h12 h4 hs X;refine ⟨qsa3,?_⟩;refine Tq rfl (CA [_,_,_,_] Ad CY rfl rfl rfl rfl) ?_;refine Ax rfl (Bt CY rfl) rfl ?_ (fun _ h=>h) Aw;rintro _ wa15 ⟨ba14,rfl,na16⟩;have ha17:=na16.blk;dsimp only at ha17;have xa18:=na16.ext;have pa19:=na16.pos;have za20:=na16.size;revert ha7 qsa3 h12 h4 hs X;refine eE xa18 ?_;intro ha7 qsa3 h12 h4 hs X;refine ⟨qsa3,?_⟩;refine At rfl (eS [_,_,_,_] ha17 ?_);intro wa21 ha25 fa23 za24;revert ha7 h12 h4 hs X;refine eF fa23 ?_;intro ha7 h12 h4 hs X
     refine Ak ?_;rotate_left;refine Ax rfl (Bt CY rfl) rfl ?_ (fun _ h=>h) Aw;rintro _ wa28 ⟨ba27,rfl,na29⟩;have ha30:=na29.blk;dsimp only at ha30;have xa31:=na29.ext;have pa32:=na29.pos;have za33:=na29.size;revert qsa3 h12 h4 hs X;refine eE xa31 ?_;intro qsa3 h12 h4 hs X;refine ⟨qsa3,?_⟩;refine Ax rfl (FH (sh:=ndShape) (C:=b1+4) (D:=b1+4) (N:=l.length) (z:=BO) Ad CY rfl rfl rfl rfl (by kernel_rfl) rfl rfl (by omega) P6) rfl ?_ (fun _ h=>h) Aw;rintro _ wa40 ⟨ga35,⟨rfl,⟨ha36,⟨ha37,⟨ha38,xa39⟩⟩⟩⟩⟩;revert ha30 qsa3 h12 h4 hs X;refine eY xa39 ?_;intro za41 ha30 qsa3 h12 h4 hs X;refine ⟨qsa3,?_⟩;refine Tq rfl (CA [_,_,_,_] Ad CY rfl rfl rfl rfl) ?_;refine At rfl (eS [_,_,_,_] ha30 ?_);intro wa42 ha46 fa44 za45;revert ha36 h12 h4 hs X;refine eF fa44 ?_;intro ha36 h12 h4 hs X;refine Ak ?_;rotate_left
    . have hq:wa1.heap.size=w9.heap.size:=congrArg Array.size ‹_›
      exact B8 (ba14,ga6) sB ⟨ha7,ha25,by simp only;omega,by simp only;omega,by simp only;omega,by simp only;omega,by simp only;omega,h4,h12,hs,X,by omega⟩
    . have hq:wa1.heap.size=w9.heap.size:=congrArg Array.size ‹_›
      exact B8 (ba27,ga35) sB ⟨ha36,ha46,by simp only;omega,by simp only;omega,by simp only;omega,by simp only;omega,by simp only;omega,h4,h12,hs,X,by omega⟩
  . clear h4 h12 hs X;rintro ⟨bm,g⟩ w1 ⟨hA,hbm,o1,o2,o3,o4,o5,hb1,hb8,hs,X,hz⟩;simp only at hA hbm o1 o2 o3 o4 o5;refine CW.sub (m:=[(1,.bool q),(2,.pointer (some ⟨b1,0,none⟩)),(4,.pointer (some ⟨b8,0,none⟩)),(5,.pointer (some ⟨bm,0,none⟩))]) ?_ sB
    have e0:dJ l.length BO=Gx (Dv q k) l 0:=by simp [Gx]
    rw [e0] at hA;refine IA (ι:=Unit) (fun _=>[(1,.bool q),(2,.pointer (some ⟨b1,0,none⟩)),(4,.pointer (some ⟨b8,0,none⟩)),(5,.pointer (some ⟨bm,0,none⟩))])
     (fun _ w'=>ArrS ndShape (b1+4) w'.heap.size w' g (l.map (Dv q k))/\Blk w' bm [.int .u8 k,.int .i64 n,str s,.slice (some ⟨g,0,none⟩) l.length l.length]/\Blk w' b1 [.int .u8 k,.int .i64 n,str s,.slice a l.length c]/\Blk w' b8 [.int .u8 0,.int .i64 0,str [],.slice none 0 0]/\Ext w w'/\b1+4<=w'.heap.size) ?_ ?_
    . refine cS (C1 Pf (C1 (Pl hb1) (C1 Pz (C1 Mv (cT ?_)))))
      refine Av ?_;refine A1 (ι:=Nat) (fun j=>[(1,.bool q),(2,.pointer (some ⟨b1,0,none⟩)),(4,.pointer (some ⟨b8,0,none⟩)),(5,.pointer (some ⟨bm,0,none⟩)),(21,.slice a l.length c),(22,.int .i64 l.length),(23,.int .i64 j)])
       (fun j w'=>j<=l.length/\ArrS ndShape (b1+4) w'.heap.size w' g (Gx (Dv q k) l j)/\Blk w' bm [.int .u8 k,.int .i64 n,str s,.slice (some ⟨g,0,none⟩) l.length l.length]/\Blk w' b1 [.int .u8 k,.int .i64 n,str s,.slice a l.length c]/\Blk w' b8 [.int .u8 0,.int .i64 0,str [],.slice none 0 0]/\rowSits (· < w.heap.size) w' l a/\Ext w w'/\b1+4<=w'.heap.size)
       (fun j=>l.length-j) 0 sB ⟨cQ _,hA.wide (by omega),hbm,hb1,hb8,hs,X,by omega⟩ ?_
      clear hA hbm hb1 hb8 hs X hz e0;rintro j w2 ⟨hj,hA,hbm,hb1,hb8,hs,X,hz⟩
      by_cases hlt:j<l.length
      . obtain ⟨kb,ko,rfl,kS,hkid⟩:=BA hs (by intro e;subst e;simp at hlt);obtain ⟨xa,xc,rx,sx⟩:=hkid j l[j] (bT hlt);have HX:=bU (HC.out l[j] (cL hlt));have hxz:=Cz (cL hlt);have hnext:=RO (Dv q k) l j hlt;have hdl:=RN (Dv q k) l j hj;clear hkid HC
        by_cases hk:k=57\/(l[j]).kind=57
        . have HX2:=bU (HX.out hk)
          have hfx:Dv q k l[j]=(l[j]).inv q:=by unfold Dv;rw [AG hk]
          rw [hfx] at hnext;clear HX hfx
          generalize l[j]=x at *
          focus
           refine eK ?_;refine eA [_,_,_,_] ?_;intro bc1 wc2 hc5 xc6 pc7 zc8;revert hA hbm hb8 X hb1 hs rx sx;refine eE xc6 ?_;intro hA hbm hb8 X hb1 hs rx sx;refine C1 Pa (eS [_,_,_,_] hc5 ?_);intro wc9 hc13 fc11 zc12;revert hA hbm hb8 X hb1 hs rx sx;refine eF fc11 ?_;intro hA hbm hb8 X hb1 hs rx sx;refine eK ?_;refine C6 rfl rfl rfl (fun cc14=>?_) (fun cc14=>?_);refine eK ?_;refine Ar (fun wz=>Ext wc9 wz) 6 (.pure 0 (.pure 1 (.pure 2 (.pure 3 (.pure 4 (.fork 5 .tail .none)))))) mixed (by kernel_rfl) (Al (Aa (Aa (Al (Aa Ah))))) ?_;intro wc15 xc16 _;have qsc17:(fun wz=>Ext wc9 wz) wc15:=xc16;simp only at qsc17;have d_hc13:=hc13;have d_hA:=hA;have d_hbm:=hbm;have d_hb8:=hb8;have d_hb1:=hb1;have d_hs:=hs;have d_rx:=rx;have d_sx:=sx;revert hc13 hA hbm hb8 X hb1 hs rx sx;refine eY xc16 ?_;intro zc18 hc13 hA hbm hb8 X hb1 hs rx sx;refine ⟨qsc17,?_⟩;refine eT ?_;refine Tq rfl (By [_,_,_,_] Ad rfl rfl rfl (fun wz hz=>(fH d_hc13 hz)) rfl rfl) (Tq rfl Mv ?_);refine Ax rfl (AU (by kernel_rfl) rfl (HX2.out _ _ _ _ ‹_›) (fun _ _ h=>h.ret)) rfl ?_ (fun _ h=>h) Aw;rintro _ wc24 ⟨ac20,⟨cc21,⟨⟨⟩,⟨hc22,xc23⟩⟩⟩⟩;revert qsc17 hc13 hA hbm hb8 X hb1 hs rx sx;refine eY xc23 ?_;intro zc25 qsc17 hc13 hA hbm hb8 X hb1 hs rx sx
           refine ⟨qsc17,?_⟩;refine At rfl (C1 Pi (Br (Gl (sh:=ndShape) (j:=j) (z:=x.inv q) (us:=[_,_,_,_]) Ad rfl rfl rfl rfl rfl rfl ‹_› (by omega) (by omega) (by omega) ⟨_,_,rfl,eX ‹_› (fun b h=>by omega)⟩) (Cg ?_)));rintro _ wc29 ⟨hc26,⟨fc27,hc28⟩⟩;revert hc22 hc13;refine eZ fc27 ?_;intro zc30 hc22 hc13;clear hA;revert hbm hb8 X hb1 hs rx sx;refine eF fc27 ?_;intro hbm hb8 X hb1 hs rx sx;refine Ak (Af (Ag (Aj (C1 V7 (C1 Mv (Ak ?_))))));rotate_left;refine eK ?_;refine Ar (fun wz=>Ext wc9 wz) 6 (.pure 0 (.pure 1 (.pure 2 (.pure 3 (.pure 4 (.fork 5 .tail .none)))))) mixed (by kernel_rfl) (Al (Aa (Aa (Al (Aa Ah))))) ?_;intro wc31 xc32 _;have qsc33:(fun wz=>Ext wc9 wz) wc31:=xc32;simp only at qsc33;have d_hc13:=hc13;have d_hA:=hA;have d_hbm:=hbm;have d_hb8:=hb8;have d_hb1:=hb1;have d_hs:=hs;have d_rx:=rx;have d_sx:=sx;revert hc13 hA hbm hb8 X hb1 hs rx sx;refine eY xc32 ?_;intro zc34 hc13 hA hbm hb8 X hb1 hs rx sx;refine ⟨qsc33,?_⟩;refine eT ?_;refine Tq rfl (By [_,_,_,_] Ad rfl rfl rfl (fun wz hz=>(fH d_hc13 hz)) rfl rfl) (Tq rfl Mv ?_);refine Ax rfl (AU (by kernel_rfl) rfl (HX2.out _ _ _ _ ‹_›) (fun _ _ h=>h.ret)) rfl ?_ (fun _ h=>h) Aw
           rintro _ wc40 ⟨ac36,⟨cc37,⟨⟨⟩,⟨hc38,xc39⟩⟩⟩⟩;revert qsc33 hc13 hA hbm hb8 X hb1 hs rx sx;refine eY xc39 ?_;intro zc41 qsc33 hc13 hA hbm hb8 X hb1 hs rx sx;refine ⟨qsc33,?_⟩;refine At rfl (C1 Pi (Br (Gl (sh:=ndShape) (j:=j) (z:=x.inv q) (us:=[_,_,_,_]) Ad rfl rfl rfl rfl rfl rfl ‹_› (by omega) (by omega) (by omega) ⟨_,_,rfl,eX ‹_› (fun b h=>by omega)⟩) (Cg ?_)));rintro _ wc45 ⟨hc42,⟨fc43,hc44⟩⟩;revert hc38 hc13;refine eZ fc43 ?_;intro zc46 hc38 hc13;clear hA;revert hbm hb8 X hb1 hs rx sx;refine eF fc43 ?_;intro hbm hb8 X hb1 hs rx sx;refine Ak (Af (Ag (Aj (C1 V7 (C1 Mv (Ak ?_))))));rotate_left
          all_goals exact AI (j+1) (by (repeat (first|exact Cy|refine AQ rfl ?_|refine Bx rfl (by go_num) ?_))) ⟨by omega,by rw [<-hnext];exact ArrS.wide ‹_› (by omega),hbm,hb1,hb8,hs,X,by omega⟩ (by omega)
        . have hfx:Dv q k l[j]=l[j]:=by unfold Dv;rw [As hk]
          rw [hfx] at hnext;clear HX hfx
          generalize l[j]=x at *
          have hk1 : ¬k=57:=fun e=>hk (bW e)
          have hk2 : ¬x.kind=57:=fun e=>hk (bX e)
          have HX2:=bU (OB x (by omega))
          refine eK ?_;refine eA [_,_,_,_] ?_;intro bd1 wd2 hd5 xd6 pd7 zd8;revert hA hbm hb8 X hb1 hs rx sx;refine eE xd6 ?_;intro hA hbm hb8 X hb1 hs rx sx;refine C1 Pa (eS [_,_,_,_] hd5 ?_);intro wd9 hd13 fd11 zd12;revert hA hbm hb8 X hb1 hs rx sx;refine eF fd11 ?_;intro hA hbm hb8 X hb1 hs rx sx;refine eK ?_;refine Ar (fun wz=>Ext wd9 wz) 5 (.pure 0 (.pure 1 (.pure 2 (.pure 3 (.fork 4 .tail .none))))) mixed (by kernel_rfl) (Al (Aa (Aa (Al (Aa Ah))))) ?_;intro wd14 xd15 _;have qsd16:(fun wz=>Ext wd9 wz) wd14:=xd15;simp only at qsd16;have d_hd13:=hd13;have d_hA:=hA;have d_hbm:=hbm;have d_hb8:=hb8;have d_hb1:=hb1;have d_hs:=hs;have d_rx:=rx;have d_sx:=sx;revert hd13 hA hbm hb8 X hb1 hs rx sx;refine eY xd15 ?_;intro zd17 hd13 hA hbm hb8 X hb1 hs rx sx;refine ⟨qsd16,?_⟩;refine eT ?_;refine Tq rfl (By [_,_,_,_] Ad rfl rfl rfl (fun wz hz=>(fH d_hd13 hz)) rfl rfl) ?_;refine Ax rfl (AU (by kernel_rfl) rfl (HX2.out _ _ _ _ ‹_›) (fun _ _ h=>h.ret)) rfl ?_ (fun _ h=>h) Aw;rintro _ wd23 ⟨ad19,⟨cd20,⟨⟨⟩,⟨hd21,xd22⟩⟩⟩⟩;revert qsd16 hd13 hA hbm hb8 X hb1 hs rx sx;refine eY xd22 ?_;intro zd24 qsd16 hd13 hA hbm hb8 X hb1 hs rx sx;refine ⟨qsd16,?_⟩;refine At rfl (C1 Pi (Br (Gl (sh:=ndShape) (j:=j) (z:=x) (us:=[_,_,_,_]) Ad rfl rfl rfl rfl rfl rfl ‹_› (by omega) (by omega) (by omega) ⟨_,_,rfl,eX ‹_› (fun b h=>by omega)⟩) (Cg ?_)))
          rintro _ wd28 ⟨hd25,⟨fd26,hd27⟩⟩;revert hd21 hd13;refine eZ fd26 ?_;intro zd29 hd21 hd13;clear hA;revert hbm hb8 X hb1 hs rx sx;refine eF fd26 ?_;intro hbm hb8 X hb1 hs rx sx;refine Ak (Af (Ag (Aj (C1 V7 (C1 Mv (Ak ?_))))))
          all_goals exact AI (j+1) sB ⟨by omega,by rw [<-hnext];exact ArrS.wide ‹_› (by omega),hbm,hb1,hb8,hs,X,by omega⟩ (by omega)
      . obtain rfl:j=l.length:=by omega
        rw [RP] at hA
        refine cS (C1 V3 (cT (Ai (Ds (Eg (A8 (A8 (BQ ?_))))))))
        exact B8 () sB ⟨hA,hbm,hb1,hb8,X,hz⟩
    . clear hA hbm hb1 hb8 hs X hz e0 HC;rintro _ w3 ⟨hA,hbm,hb1,hb8,X,hz⟩
      have hxl:(l.map (Dv q k)).length=l.length:=by simp
      by_cases k57:k=57
      . subst k57
        have ht:(Nd.mk 57 n s l).inv q = .mk 57 n s (B3 q l).reverse:=by
         conv=>lhs;unfold Nd.inv
         rw [AG rfl]
        rw [ht,RM]
        generalize l.map (Dv q 57)=xs at *
        rw [<-hxl] at hbm
        refine eK ?_;refine C1 (Bq rfl rfl (dA _ (by omega))) ?_;refine eK ?_;refine cC rfl (Ud (b1+4) _ _ _ _ _ ‹_› (bW (by omega)) (by omega)) ?_;rintro _ wf3 ⟨⟨⟩,⟨hf1,ff2⟩⟩;revert hb8 X hb1 hbm;refine eZ ff2 ?_;intro zf4 hb8 X hb1 hbm;clear hA ff2;refine eK ?_;refine eS [_,_,_,_] hb8 ?_;intro wf5 hf9 ff7 zf8;revert hf1 X hb1 hbm;refine eF ff7 ?_;intro hf1 X hb1 hbm;refine eK ?_;refine EG rfl Ad rfl rfl rfl hf9 rfl ?_
        exact D6 (by simp) (hf1.wide (by omega)) (by omega) (by omega) X
      rw [P5 q k57]
      by_cases k5:k=52\/k=53\/k=54
      . rw [AG k5];have hne:=v2 k5
        generalize l.map (Dv q k)=xs at *
        have hpos:0<xs.length:=by rw [hxl];exact List.length_pos_iff.2 hne
        obtain ⟨x,hx⟩ : ∃x,xs[0]? = some x:=⟨_,bT hpos⟩;obtain ⟨y,hy⟩ : ∃y,xs[xs.length-1]? = some y:=⟨_,bT (by omega)⟩;obtain ⟨_,r1,xa,xc,rfl,sx⟩:=hA.row hx;obtain ⟨_,r2,ya,yc,rfl,sy⟩:=hA.row hy
        have em:((xs.length:Int)-1).toNat=xs.length-1:=by omega
        have hsw:GH xs=(xs.set 0 y).set ((xs.length:Int)-1).toNat x:=by
         unfold GH
         rw [em,cB,cB,hx,hy]
         rfl
        rw [hsw]
        have hsl:((xs.set 0 y).set ((xs.length:Int)-1).toNat x).length=xs.length:=by simp
        replace r1:Row w3 ⟨g,0+0*4,none⟩ (x.cells xa xc):=r1
        replace r2:Row w3 ⟨g,0+((xs.length:Int)-1).toNat*4,none⟩ (y.cells ya yc):=by rw [em];exact r2
        rw [<-hxl] at hbm
        clear hx hy hsw
        rcases k5 with rfl|rfl|rfl
        . focus
           refine eK ?_;refine C1 (Bq rfl rfl (dA _ (by omega))) ?_;refine eK ?_;refine GF (fun wz=>Ext w3 wz) (fun wz=>Fr (fun x=>x=g) w3 wz) [2,3,4,15,16,17] [2,3,4] 15 16 (.free 2 (.free 3 (.free 4 (.pure 0 (.pure 1 (.pure 5 (.pure 6 (.pure 7 (.pure 8 (.pure 9 (.pure 10 (.pure 11 (.pure 12 (.pure 13 (.pure 14 (.put 15 (.tail 16))))))))))))))))) (fun _ h=>fE h) mixed (by kernel_rfl) (Al (Aa Ah)) ?_;intro wg1 xg2 _;have qsg3:(fun wz=>Ext w3 wz) wg1:=xg2;simp only at qsg3;have qtg4:(fun wz=>Fr (fun x=>x=g) w3 wz) wg1:=fE xg2;simp only at qtg4;have d_hb8:=hb8;have d_hA:=hA;have d_sx:=sx;have d_sy:=sy;have d_r1:=r1;have d_r2:=r2;have d_hb1:=hb1;have d_hbm:=hbm;revert hb8 X hA sx sy r1 r2 hb1 hbm;refine eY xg2 ?_;intro zg5 hb8 X hA sx sy r1 r2 hb1 hbm;refine BI ‹_› rfl (AO Ad rfl rfl rfl) rfl (BI ‹_› rfl (An Ad rfl rfl rfl (fun wz hz=>fD (fB d_hbm hz (by omega)) rfl)) rfl (BI ‹_› rfl (AL rfl) rfl (Ap ‹_› rfl (AO Ad rfl rfl rfl) rfl (Ap ‹_› rfl (An Ad rfl rfl rfl (fun wz hz=>fD (fH d_hbm hz) rfl)) rfl (Ap ‹_› rfl (AO Ad rfl rfl rfl) rfl (Ap ‹_› rfl (An Ad rfl rfl rfl (fun wz hz=>fD (fH d_hbm hz) rfl)) rfl (Ap ‹_› rfl (AL rfl) rfl (Ap ‹_› rfl (Bf Ad rfl rfl rfl rfl (by omega) (by omega)) rfl (Ap ‹_› rfl (Cl Ad rfl rfl rfl (fun wz hz=>(fL d_r2 hz)) rfl) rfl (Ap ‹_› rfl (AO Ad rfl rfl rfl) rfl (Ap ‹_› rfl (An Ad rfl rfl rfl (fun wz hz=>fD (fH d_hbm hz) rfl)) rfl ?_)))))))))))
           refine Ap ‹_› rfl (Bf Ad rfl rfl rfl rfl (by omega) (by omega)) rfl (Ap ‹_› rfl (DR [_,_,_,_] Ad rfl rfl rfl (fun wz hz=>(fL d_r1 hz)) rfl rfl) rfl (Ap ‹_› rfl (Bf Ad rfl rfl rfl rfl (by omega) (by omega)) rfl (EI rfl (CJ (sh:=ndShape) (j:=0) (z:=y) (us:=[_,_,_,_]) Ad rfl rfl rfl rfl rfl rfl ‹_› (by omega) (bW (by omega)) ⟨_,_,rfl,by assumption⟩) (Cg ?_))));rintro _ wg9 ⟨hg6,⟨fg7,hg8⟩⟩;revert qtg4 hb8 X;refine eZ fg7 ?_;intro zg10 qtg4 hb8 X;clear hA;revert sx sy;refine eF fg7 ?_;intro sx sy;revert hb1 hbm;refine eF fg7 ?_;intro hb1 hbm;refine ⟨by assumption,?_⟩;refine EH rfl (C1 Pi (Br (CJ (sh:=ndShape) (j:=((xs.length:Int)-1).toNat) (z:=x) (us:=[_,_,_,_]) Ad rfl rfl rfl rfl rfl rfl ‹_› (by rw [List.length_set];omega) (bW (by omega)) ⟨_,_,rfl,by assumption⟩) (Cg ?_)));rintro _ wg14 ⟨hg11,⟨fg12,hg13⟩⟩;have zg15:=fg12.size;revert hb8 X sx sy hb1 hbm;refine eF fg12 ?_;intro hb8 X sx sy hb1 hbm;refine eK ?_;refine eS [_,_,_,_] hb8 ?_;intro wg16 hg20 fg18 zg19;revert hg11 X sx sy hb1 hbm;refine eF fg18 ?_;intro hg11 X sx sy hb1 hbm;refine eK ?_;refine EG rfl Ad rfl rfl rfl hg20 rfl ?_
           rotate_left
          exact D6 hsl (ArrS.wide ‹_› (by omega)) (by omega) (by omega) X
        . focus
           refine eK ?_;refine C1 (Bq rfl rfl (dA _ (by omega))) ?_;refine eK ?_;refine GF (fun wz=>Ext w3 wz) (fun wz=>Fr (fun x=>x=g) w3 wz) [2,3,4,15,16,17] [2,3,4] 15 16 (.free 2 (.free 3 (.free 4 (.pure 0 (.pure 1 (.pure 5 (.pure 6 (.pure 7 (.pure 8 (.pure 9 (.pure 10 (.pure 11 (.pure 12 (.pure 13 (.pure 14 (.put 15 (.tail 16))))))))))))))))) (fun _ h=>fE h) mixed (by kernel_rfl) (Al (Aa Ah)) ?_;intro wh1 xh2 _;have qsh3:(fun wz=>Ext w3 wz) wh1:=xh2;simp only at qsh3;have qth4:(fun wz=>Fr (fun x=>x=g) w3 wz) wh1:=fE xh2;simp only at qth4;have d_hb8:=hb8;have d_hA:=hA;have d_sx:=sx;have d_sy:=sy;have d_r1:=r1;have d_r2:=r2;have d_hb1:=hb1;have d_hbm:=hbm;revert hb8 X hA sx sy r1 r2 hb1 hbm;refine eY xh2 ?_;intro zh5 hb8 X hA sx sy r1 r2 hb1 hbm;refine BI ‹_› rfl (AO Ad rfl rfl rfl) rfl (BI ‹_› rfl (An Ad rfl rfl rfl (fun wz hz=>fD (fB d_hbm hz (by omega)) rfl)) rfl (BI ‹_› rfl (AL rfl) rfl (Ap ‹_› rfl (AO Ad rfl rfl rfl) rfl (Ap ‹_› rfl (An Ad rfl rfl rfl (fun wz hz=>fD (fH d_hbm hz) rfl)) rfl (Ap ‹_› rfl (AO Ad rfl rfl rfl) rfl (Ap ‹_› rfl (An Ad rfl rfl rfl (fun wz hz=>fD (fH d_hbm hz) rfl)) rfl (Ap ‹_› rfl (AL rfl) rfl (Ap ‹_› rfl (Bf Ad rfl rfl rfl rfl (by omega) (by omega)) rfl (Ap ‹_› rfl (Cl Ad rfl rfl rfl (fun wz hz=>(fL d_r2 hz)) rfl) rfl (Ap ‹_› rfl (AO Ad rfl rfl rfl) rfl (Ap ‹_› rfl (An Ad rfl rfl rfl (fun wz hz=>fD (fH d_hbm hz) rfl)) rfl ?_)))))))))))
           refine Ap ‹_› rfl (Bf Ad rfl rfl rfl rfl (by omega) (by omega)) rfl (Ap ‹_› rfl (DR [_,_,_,_] Ad rfl rfl rfl (fun wz hz=>(fL d_r1 hz)) rfl rfl) rfl (Ap ‹_› rfl (Bf Ad rfl rfl rfl rfl (by omega) (by omega)) rfl (EI rfl (CJ (sh:=ndShape) (j:=0) (z:=y) (us:=[_,_,_,_]) Ad rfl rfl rfl rfl rfl rfl ‹_› (by omega) (bW (by omega)) ⟨_,_,rfl,by assumption⟩) (Cg ?_))));rintro _ wh9 ⟨hh6,⟨fh7,hh8⟩⟩;revert qth4 hb8 X;refine eZ fh7 ?_;intro zh10 qth4 hb8 X;clear hA;revert sx sy;refine eF fh7 ?_;intro sx sy;revert hb1 hbm;refine eF fh7 ?_;intro hb1 hbm;refine ⟨by assumption,?_⟩;refine EH rfl (C1 Pi (Br (CJ (sh:=ndShape) (j:=((xs.length:Int)-1).toNat) (z:=x) (us:=[_,_,_,_]) Ad rfl rfl rfl rfl rfl rfl ‹_› (by rw [List.length_set];omega) (bW (by omega)) ⟨_,_,rfl,by assumption⟩) (Cg ?_)));rintro _ wh14 ⟨hh11,⟨fh12,hh13⟩⟩;have zh15:=fh12.size;revert hb8 X sx sy hb1 hbm;refine eF fh12 ?_;intro hb8 X sx sy hb1 hbm;refine eK ?_;refine eS [_,_,_,_] hb8 ?_;intro wh16 hh20 fh18 zh19;revert hh11 X sx sy hb1 hbm;refine eF fh18 ?_;intro hh11 X sx sy hb1 hbm;refine eK ?_;refine EG rfl Ad rfl rfl rfl hh20 rfl ?_
           rotate_left
          exact D6 hsl (ArrS.wide ‹_› (by omega)) (by omega) (by omega) X
        . focus
           refine eK ?_;refine C1 (Bq rfl rfl (dA _ (by omega))) ?_;refine eK ?_;refine GF (fun wz=>Ext w3 wz) (fun wz=>Fr (fun x=>x=g) w3 wz) [2,3,4,15,16,17] [2,3,4] 15 16 (.free 2 (.free 3 (.free 4 (.pure 0 (.pure 1 (.pure 5 (.pure 6 (.pure 7 (.pure 8 (.pure 9 (.pure 10 (.pure 11 (.pure 12 (.pure 13 (.pure 14 (.put 15 (.tail 16))))))))))))))))) (fun _ h=>fE h) mixed (by kernel_rfl) (Al (Aa Ah)) ?_;intro wi1 xi2 _;have qsi3:(fun wz=>Ext w3 wz) wi1:=xi2;simp only at qsi3;have qti4:(fun wz=>Fr (fun x=>x=g) w3 wz) wi1:=fE xi2;simp only at qti4;have d_hb8:=hb8;have d_hA:=hA;have d_sx:=sx;have d_sy:=sy;have d_r1:=r1;have d_r2:=r2;have d_hb1:=hb1;have d_hbm:=hbm;revert hb8 X hA sx sy r1 r2 hb1 hbm;refine eY xi2 ?_;intro zi5 hb8 X hA sx sy r1 r2 hb1 hbm;refine BI ‹_› rfl (AO Ad rfl rfl rfl) rfl (BI ‹_› rfl (An Ad rfl rfl rfl (fun wz hz=>fD (fB d_hbm hz (by omega)) rfl)) rfl (BI ‹_› rfl (AL rfl) rfl (Ap ‹_› rfl (AO Ad rfl rfl rfl) rfl (Ap ‹_› rfl (An Ad rfl rfl rfl (fun wz hz=>fD (fH d_hbm hz) rfl)) rfl (Ap ‹_› rfl (AO Ad rfl rfl rfl) rfl (Ap ‹_› rfl (An Ad rfl rfl rfl (fun wz hz=>fD (fH d_hbm hz) rfl)) rfl (Ap ‹_› rfl (AL rfl) rfl (Ap ‹_› rfl (Bf Ad rfl rfl rfl rfl (by omega) (by omega)) rfl (Ap ‹_› rfl (Cl Ad rfl rfl rfl (fun wz hz=>(fL d_r2 hz)) rfl) rfl (Ap ‹_› rfl (AO Ad rfl rfl rfl) rfl (Ap ‹_› rfl (An Ad rfl rfl rfl (fun wz hz=>fD (fH d_hbm hz) rfl)) rfl ?_)))))))))))
           refine Ap ‹_› rfl (Bf Ad rfl rfl rfl rfl (by omega) (by omega)) rfl (Ap ‹_› rfl (DR [_,_,_,_] Ad rfl rfl rfl (fun wz hz=>(fL d_r1 hz)) rfl rfl) rfl (Ap ‹_› rfl (Bf Ad rfl rfl rfl rfl (by omega) (by omega)) rfl (EI rfl (CJ (sh:=ndShape) (j:=0) (z:=y) (us:=[_,_,_,_]) Ad rfl rfl rfl rfl rfl rfl ‹_› (by omega) (bW (by omega)) ⟨_,_,rfl,by assumption⟩) (Cg ?_))));rintro _ wi9 ⟨hi6,⟨fi7,hi8⟩⟩;revert qti4 hb8 X;refine eZ fi7 ?_;intro zi10 qti4 hb8 X;clear hA;revert sx sy;refine eF fi7 ?_;intro sx sy;revert hb1 hbm;refine eF fi7 ?_;intro hb1 hbm;refine ⟨by assumption,?_⟩;refine EH rfl (C1 Pi (Br (CJ (sh:=ndShape) (j:=((xs.length:Int)-1).toNat) (z:=x) (us:=[_,_,_,_]) Ad rfl rfl rfl rfl rfl rfl ‹_› (by rw [List.length_set];omega) (bW (by omega)) ⟨_,_,rfl,by assumption⟩) (Cg ?_)));rintro _ wi14 ⟨hi11,⟨fi12,hi13⟩⟩;have zi15:=fi12.size;revert hb8 X sx sy hb1 hbm;refine eF fi12 ?_;intro hb8 X sx sy hb1 hbm;refine eK ?_;refine eS [_,_,_,_] hb8 ?_;intro wi16 hi20 fi18 zi19;revert hi11 X sx sy hb1 hbm;refine eF fi18 ?_;intro hi11 X sx sy hb1 hbm;refine eK ?_;refine EG rfl Ad rfl rfl rfl hi20 rfl ?_
           rotate_left
          exact D6 hsl (ArrS.wide ‹_› (by omega)) (by omega) (by omega) X
      . rw [As k5]
        generalize l.map (Dv q k)=xs at *
        have k52 : ¬k=52:=fun e=>k5 (bW e)
        have k53 : ¬k=53:=fun e=>k5 (bX (bW e))
        have k54 : ¬k=54:=fun e=>k5 (bX (bX e))
        by_cases k6:k=50\/k=51
        . rw [AG k6]
          cases q
          . simp only [dK,if_false]
            rcases k6 with rfl|rfl
            . refine eK ?_;refine C1 (Bq rfl rfl (dA _ (by omega))) ?_;refine eK ?_;refine cC rfl (Ib _ _ (by omega) (by omega)) ?_;rintro _ wj1 ⟨⟨⟩,rfl⟩;refine C1 Pg (eV [_] [_,_,_,_] hbm ?_);intro wj2 hj6 fj4 zj5;clear hbm;revert hb8 X hA hb1;refine eF fj4 ?_;intro hb8 X hA hb1;refine eK ?_;refine eS [_,_,_,_] hb8 ?_;intro wj7 hj11 fj9 zj10;revert hj6 X hA hb1;refine eF fj9 ?_;intro hj6 X hA hb1;refine eK ?_;refine EG rfl Ad rfl rfl rfl hj11 rfl ?_
              exact D6 hxl (ArrS.wide ‹_› (by omega)) (by omega) (by omega) X
            . refine eK ?_;refine C1 (Bq rfl rfl (dA _ (by omega))) ?_;refine eK ?_;refine cC rfl (Ib _ _ (by omega) (by omega)) ?_;rintro _ wk1 ⟨⟨⟩,rfl⟩;refine C1 Pg (eV [_] [_,_,_,_] hbm ?_);intro wk2 hk6 fk4 zk5;clear hbm;revert hb8 X hA hb1;refine eF fk4 ?_;intro hb8 X hA hb1;refine eK ?_;refine eS [_,_,_,_] hb8 ?_;intro wk7 hk11 fk9 zk10;revert hk6 X hA hb1;refine eF fk9 ?_;intro hk6 X hA hb1;refine eK ?_;refine EG rfl Ad rfl rfl rfl hk11 rfl ?_
              exact D6 hxl (ArrS.wide ‹_› (by omega)) (by omega) (by omega) X
          . simp only [if_true]
            rcases k6 with rfl|rfl
            . refine eK ?_;refine C1 (Bq rfl rfl (dA _ (by omega))) ?_;refine eK ?_;refine eS [_,_,_,_] hb8 ?_;intro wl1 hl5 fl3 zl4;revert X hA hbm hb1;refine eF fl3 ?_;intro X hA hbm hb1;refine eK ?_;refine EG rfl Ad rfl rfl rfl hl5 rfl ?_
              exact D6 hxl (ArrS.wide ‹_› (by omega)) (by omega) (by omega) X
            . refine eK ?_;refine C1 (Bq rfl rfl (dA _ (by omega))) ?_;refine eK ?_;refine eS [_,_,_,_] hb8 ?_;intro wm1 hm5 fm3 zm4;revert X hA hbm hb1;refine eF fm3 ?_;intro X hA hbm hb1;refine eK ?_;refine EG rfl Ad rfl rfl rfl hm5 rfl ?_
              exact D6 hxl (ArrS.wide ‹_› (by omega)) (by omega) (by omega) X
        . rw [As k6]
          have k50 : ¬k=50:=fun e=>k6 (bW e)
          have k51 : ¬k=51:=fun e=>k6 (bX e)
          refine eK ?_;refine C1 (Bq rfl rfl (dA _ (by omega))) ?_;refine eK ?_;refine cC rfl (Ib _ _ (by omega) (by omega)) ?_;rintro _ wn1 ⟨⟨⟩,rfl⟩;refine C1 Pg (eV [_] [_,_,_,_] hbm ?_);intro wn2 hn6 fn4 zn5;clear hbm;revert hb1 hb8 X hA;refine eF fn4 ?_;intro hb1 hb8 X hA;refine eK ?_;refine eS [_,_,_,_] hb8 ?_;intro wn7 hn11 fn9 zn10;revert hn6 hb1 X hA;refine eF fn9 ?_;intro hn6 hb1 X hA;refine eK ?_;refine EG rfl Ad rfl rfl rfl hn11 rfl ?_
          exact D6 hxl (ArrS.wide ‹_› (by omega)) (by omega) (by omega) X
structure OwnM {α:Type} (sh:Shape α) (w:wD) (R:nP) (B:Nat) (e:TypeId) (v:Value) (xs:List α):Prop where
 ex : ∃css:List lV,Own w B e sh.sz v xs.length css.flatten/\css.length=xs.length /\ ∀(i:Nat) (x:α) (cs:lV),xs[i]? = some x->css[i]? = some cs->sh.rep w (fun b=>(R b\/B<=b)/\v.ownBlock≠some b) x cs
section
variable {α:Type} {sh:Shape α} {R:nP} {B e:Nat} {w w':wD} {v:Value} {xs:List α}
def OwnM.rows (h:OwnM sh w R B e v xs) (X:xs≠[]) : ∃g cap,v = .slice (some ⟨g,0,none⟩) xs.length cap/\B<=g /\ ∀(i:Nat) (x:α),xs[i]? = some x -> ∃cs,Row w ⟨g,i*sh.sz,none⟩ cs/\sh.rep w (fun b=>R b\/B<=b) x cs:=by
 obtain ⟨F,Y,h2,V⟩:=h.ex;rcases Y.row with ⟨rfl,Z,-⟩|⟨g,cap,rfl,hg,aa,hr⟩
 . exact absurd (List.length_eq_zero_iff.1 Z) X
 . refine ⟨g,cap,rfl,hg,fun i x M=>?_⟩;have ab:i<xs.length:=by
    rcases cO i xs.length with h|h
    . exact h
    . rw [cI h] at M;cases M
   have hc:F[i]? = some F[i]:=bT Ab;have G : ∀cs∈F,cs.length=sh.sz:=fun cs N=>by
    obtain ⟨k,hk,rfl⟩:=List.mem_iff_getElem.1 N;exact sh.len (V k xs[k] F[k] (bT Ab) (bT hk))
   obtain ⟨e1,e2⟩:=G8 G (show i<F.length by omega);refine ⟨F[i],fun j u O=>?_,sh.mono (V i x _ M hc) (fun _ h=>h.1) (fun _ _ _ _ h=>h)⟩;have U:j<F[i].length:=by
    rcases cO j F[i].length with h|h
    . exact h
    . rw [cI h] at O;cases O
   have L:F.flatten[i*sh.sz+j]? = some u:=by
    rw [e1,dP,cW Ab,e2,Nat.add_sub_cancel_left,cK U];exact O
   have:=hr.at (i:=i*sh.sz+j) L;have e:(⟨g,i*sh.sz,none⟩:Addr).add j=⟨g,0+(i*sh.sz+j),none⟩:=by unfold eG;by_cases h0:j=0<;>simp [h0]
   rw [e];exact this
end
section
variable {ts:List Tok} {n:Int}
structure Le (ts:List Tok) (σ σ':PS):Prop where
 le:σ.at_<=σ'.at_
 wf:σ'.at_<=ts.length
 err:σ.err≠0->σ'=σ
def Lt (σ σ':PS):Prop:=σ'.err=0->σ.at_<σ'.at_
def Le.refl {σ:PS} (h:σ.at_<=ts.length):Le ts σ σ:=⟨cH _,h,fun _=>rfl⟩
def Le.trans {a b c:PS} (h:Le ts a b) (k:Le ts b c):Le ts a c:=⟨dV h.le k.le,k.wf,fun e=>by rw [k.err (by rw [h.err e];exact e),h.err e]⟩
def Le.ok {a b:PS} (h:Le ts a b) (e:b.err=0):a.err=0:=by
 rcases Int.lt_trichotomy a.err 0 with F|F|F
 . have:=h.err Ab;rw [this] at e;exact e
 . exact F
 . have:=h.err Ab;rw [this] at e;exact e
def Lt.of_lt {a b c:PS} (h:Lt a b) (k:Le ts b c):Lt a c:=fun e=>Nat.lt_of_lt_of_le (h (k.ok e)) k.le
def Lt.of_le {a b c:PS} (h:Le ts a b) (k:Lt b c):Lt a c:=fun e=>Nat.lt_of_le_of_lt h.le (k e)
def VB {σ:PS} (h:σ.err≠0):AJ ts σ=Tok.zero:=by unfold AJ;rw [AG (bW h)]
def VC {σ:PS} (h:σ.at_=ts.length):AJ ts σ=Tok.zero:=by unfold AJ;rw [AG (bX h)]
def DO {σ:PS} (L:σ.at_<=ts.length) (h:(AJ ts σ).text≠[]\/(AJ ts σ).kind≠0):σ.err=0/\σ.at_<ts.length:=by
 by_cases F:σ.err=0
 . by_cases G:σ.at_=ts.length
   . rw [VC G] at h;simp [Tok.zero] at h
   . exact ⟨F,Ab⟩
 . rw [VB F] at h;simp [Tok.zero] at h
def Ct {σ:PS} {t:lB} (F:σ.at_<=ts.length) (h:DA ts σ t=true) (G:t≠[]):σ.err=0/\σ.at_<ts.length:=by
 unfold DA at h;have:=of_decide_eq_true h;exact DO F (bW (by rw [this];exact G))
def Bg {σ:PS} (h:σ.err=0/\σ.at_<ts.length):Le ts σ (AA σ):=⟨Nat.le_succ _,h.2,fun e=>absurd h.1 e⟩
def next_lt {σ:PS}:Lt σ (AA σ):=fun _=>Nat.lt_succ_self _
def JO {σ:PS} (h:σ.at_<=ts.length) (off e:Int):Le ts σ (Dc σ off e):=by
 unfold Dc;split
 . rename_i F;exact ⟨cH _,h,fun e=>absurd F e⟩
 . exact Le.refl h
def P7 {σ:PS} {off e:Int} (h:e≠0):(Dc σ off e).err≠0:=by
 unfold Dc;split
 . exact h
 . assumption
def Ic {σ:PS} (h:σ.at_<=ts.length):Le ts σ (DU ts n σ):=by
 unfold DU;split<;>exact JO h _ _
def Ue {σ:PS}:(DU ts n σ).err≠0:=by
 unfold DU;split<;>exact P7 AY
def LX {σ:PS}:Lt σ (DU ts n σ):=fun e=>absurd e Ue
def AX {σ:PS} {t:lB} (h:σ.at_<=ts.length) (F:t≠[]):Le ts σ (AW ts n σ t):=by
 unfold AW;split
 . rename_i G;exact Bg (Ct h G F)
 . exact Ic h
def Ew {σ:PS} {t:lB}:Lt σ (AW ts n σ t):=by
 unfold AW;split
 . exact next_lt
 . exact LX
def NF {s:lB} (h:CF s=true):s≠[]:=by
 intro e;subst e;simp [CF] at h
def BW {σ:PS} (h:σ.at_<=ts.length):Le ts σ (BJ ts n σ).2:=by
 unfold BJ;split
 . rename_i F;exact Bg (DO h (bW (NF F)))
 . exact Ic h
def XE {σ:PS}:Lt σ (BJ ts n σ).2:=by
 unfold BJ;split
 . exact next_lt
 . exact LX
def NG {σ:PS} {a b:Int} (h:σ.at_<=ts.length):Le ts σ (CU ts n a b σ).2:=by
 unfold CU;split
 . rename_i G;have F:=DO h (bX (by rw [G];decide));split
   . exact Bg F
   . exact (Bg F).trans (JO (Bg F).wf _ _)
 . exact Ic h
def Uf {σ:PS} {a b:Int}:Lt σ (CU ts n a b σ).2:=by
 unfold CU;split
 . split
   . exact next_lt
   . exact fun e=>absurd e (P7 AY)
 . exact LX
def LY {t:lB} {op:Int} (h:Nt t=some op):t≠[]/\8<=op/\op<=23/\GZ op=t:=by
 unfold Nt at h;have L:=List.find?_some h;have F:=List.mem_of_find?_eq_some h;have G:=of_decide_eq_true L;simp only [dQ,eP,or_false] at F;refine ⟨?_,Ab,Ab,G⟩;rintro rfl;rcases F with rfl|rfl|rfl|rfl|rfl|rfl|rfl|rfl|rfl|rfl|rfl|rfl|rfl|rfl|rfl|rfl<;>exact absurd G AY
def Id (k:Nat):(∀lv σ,σ.at_<=ts.length->Le ts σ (Cn ts n k lv σ).2/\(4<=k->Lt σ (Cn ts n k lv σ).2))/\(∀lv x σ,σ.at_<=ts.length->Le ts σ (Dt ts n k lv x σ).2) /\
 (∀ σ,σ.at_<=ts.length->Le ts σ (BK ts n k σ).2/\(3<=k->Lt σ (BK ts n k σ).2))/\(∀ σ,σ.at_<=ts.length->Le ts σ (BY ts n k σ).2/\(2<=k->Lt σ (BY ts n k σ).2)) /\
 (∀ σ,σ.at_<=ts.length->Le ts σ (CB ts n k σ).2/\(1<=k->Lt σ (CB ts n k σ).2)):=by
 induction k with
 | zero=>
  refine ⟨fun lv σ h=>⟨?_,fun h=>by omega⟩,fun lv x σ h=>?_,fun σ h=>⟨?_,fun h=>by omega⟩,fun σ h=>⟨?_,fun h=>by omega⟩,fun σ h=>⟨?_,fun h=>by omega⟩⟩
  . rw [Cn];exact Le.refl h
  . rw [Dt];exact Le.refl h
  . rw [BK];exact Le.refl h
  . rw [BY];exact Le.refl h
  . rw [CB];exact Le.refl h
 | succ k ih=>
  obtain ⟨O,iC,U,iP,iL⟩:=ih;refine ⟨fun lv σ h=>?_,fun lv x σ h=>?_,fun σ h=>?_,fun σ h=>?_,fun σ h=>?_⟩
  . rw [Cn];have V:=U σ h;have hc:=iC lv (BK ts n k σ).1 (BK ts n k σ).2 V.1.wf;exact ⟨V.1.trans hc,fun hk=>(V.2 Ab).of_lt hc⟩
  . rw [Dt];split
    . exact Le.refl h
    . rename_i op X;obtain ⟨Y,-⟩:=LY X;have L:=DO h (bW Y);split
      . exact Le.refl h
      . have G:=Bg L;have F:=O (EJ op+1) (AA σ) G.wf;exact (G.trans F.1).trans (iC _ _ _ F.1.wf)
  . rw [BK];split
    . rename_i M;have L:=Ct h M AY;have G:=Bg L;have F:=U (AA σ) G.wf;exact ⟨G.trans F.1,fun _=>next_lt.of_lt F.1⟩
    . split
      . rename_i M;have L:=Ct h M AY;have G:=Bg L;have F:=U (AA σ) G.wf;exact ⟨G.trans F.1,fun _=>next_lt.of_lt F.1⟩
      . exact ⟨(iP σ h).1,fun hk=>(iP σ h).2 Ab⟩
  . rw [BY];split
    . exact ⟨NG h,fun _=>Uf⟩
    . split
      . rename_i M;have L:=Ct h M AY;have G:=Bg L;have F:=G.trans (AX (n:=n) (t:=[40]) G.wf AY);have N:=F.trans (BW (n:=n) F.wf);have Z:=N.trans (AX (n:=n) (t:=[41]) N.wf AY);exact ⟨Z,fun _=>Lt.of_le (ts:=ts) N Ew⟩
      . split
        . rename_i M;have L:=Ct h M AY;have G:=Bg L;have F:=G.trans (AX (n:=n) (t:=[40]) G.wf AY);have N:=F.trans (BW (n:=n) F.wf);have Z:=N.trans (AX (n:=n) (t:=[41]) N.wf AY);exact ⟨Z,fun _=>Lt.of_le (ts:=ts) N Ew⟩
        . split
          . rename_i M;have L:=Ct h M AY;have G:=Bg L;have F:=G.trans (O 1 (AA σ) G.wf).1;exact ⟨F.trans (AX F.wf AY),fun _=>Lt.of_le (ts:=ts) F Ew⟩
          . exact ⟨(iL σ h).1,fun hk=>(iL σ h).2 Ab⟩
  . rw [CB];have h0:=BW (n:=n) h;split
    . rename_i M;have L:=Ct h0.wf M AY;have G:=h0.trans (Bg L);have F:=G.trans (O 1 _ G.wf).1;exact ⟨F.trans (AX F.wf AY),fun _=>Lt.of_le (ts:=ts) F Ew⟩
    . exact ⟨h0,fun _=>XE⟩
end
structure PC where
 pb:Nat
 B:Nat
 ts:List Tok
 n:Int
 a:oA
 cap:Nat
 r:Nat
abbrev Tok.cells (t:Tok):lV:=[.int .u8 t.kind,str t.text,.int .i64 t.pos]
abbrev Tok.val (t:Tok):Value:=.agg #[.int .u8 t.kind,str t.text,.int .i64 t.pos]
def VE (w:wD) (b o:Nat) (t:Tok):Prop:=Row w ⟨b,o,none⟩ t.cells
def binMap:List (lB×Value):=[8,9,10,11,12,13,14,15,16,17,18,19,20,21,22,23].map fun k=>(GZ k,.int .u8 k)
abbrev PC.cells (c:PC) (σ:PS):lV:=[.slice c.a c.ts.length c.cap,.int .i64 σ.at_,.int .i64 c.n,.map (some c.r),.int .i64 σ.off,.int .i64 σ.err]
structure Errs (w:wD):Prop where
 ex : ∃te pe,w.cell? ⟨3,0,none⟩=some (.iface te pe)
def Errs.ext {w w':wD} (h:Errs w) (x:Ext w w'):Errs w':=by
 obtain ⟨F,G,h⟩:=h.ex;exact ⟨F,G,x.keep h⟩
instance {w w':wD}:LfE w w' (Errs w) (Errs w'):=⟨fun x h=>Bk.Errs.ext h x⟩
def Errs.fr {S:nP} {w w':wD} (h:Errs w) (x:Fr S w w') (F : ¬S 3):Errs w':=by
 obtain ⟨G,L,h⟩:=h.ex;exact ⟨G,L,x.keep F h⟩
instance {S:nP} {w w':wD}:LfF S w w' (Errs w) (¬S 3) (Errs w'):=⟨fun x s h=>Bk.Errs.fr h x s⟩
structure PP (c:PC) (σ:PS) (w:wD):Prop where
 blk:Blk w c.pb (c.cells σ)
 toks:Arr (fun b=>b<c.B/\b≠c.pb) 3 VE w c.ts c.a
 map:MapIs w c.r binMap
 pbB:c.pb<c.B
 rB:c.r<c.B
 rne:c.r≠c.pb
 B:c.B<=w.heap.size
 at_:σ.at_<=c.ts.length
 len:c.ts.length<=1000000
 tok : ∀t∈c.ts,t.text.length<=1000000
 num : ∀t∈c.ts,t.kind=2->t.text≠[] /\ ∀x∈t.text,Do x=true
 errs:Errs w
 gl:3<c.pb
def PP.ext {c:PC} {σ:PS} {w w':wD} (h:PP c σ w) (x:Ext w w'):PP c σ w':=
 ⟨h.blk.ext x,h.toks.mono aFh (fun _ _ _ _ _ h=>fL h x),h.map.ext x,h.pbB,h.rB,h.rne,dV h.B x.size,h.at_,h.len,h.tok,h.num,h.errs.ext x,h.gl⟩
instance {c:PC} {σ:PS} {w w':wD}:LfE w w' (PP c σ w) (PP c σ w'):=⟨fun x h=>Bk.PP.ext h x⟩
def PP.fr {c:PC} {σ:PS} {S:nP} {w w':wD} (h:PP c σ w) (x:Fr S w w') (F : ∀k,S k->c.B<=k):PP c σ w':=
 ⟨h.blk.fr x (fun e=>by have:=F _ e;have:=h.pbB;omega),h.toks.mono aFh (fun b _ _ _ G h=>Row.fr h x (fun e=>by have L:=F _ e;have M:=G.1;have N:c.B<=b:=L;omega)),h.map.fr x (fun e=>by have:=F _ e;have:=h.rB;omega),h.pbB,h.rB,h.rne,dV h.B x.size,h.at_,h.len,h.tok,h.num,h.errs.fr x (fun e=>by have:=F _ e;have:=h.gl;have:=h.pbB;omega),h.gl⟩
instance {c:PC} {σ:PS} {S:nP} {w w':wD}:LfF S w w' (PP c σ w) (∀k,S k->c.B<=k) (PP c σ w'):=⟨fun x s h=>Bk.PP.fr h x s⟩
def PP.put {c:PC} {σ σ':PS} {w w':wD} (h:PP c σ w) (p:Put w w' c.pb (c.cells σ')) (F:σ'.at_<=c.ts.length):PP c σ' w':=
 ⟨p.blk,h.toks.mono aFh (fun b _ _ _ G h=>Row.fr h p.fr (fun e=>G.2 e)),h.map.fr p.fr (fun e=>h.rne e),h.pbB,h.rB,h.rne,dV h.B p.fr.size,F,h.len,h.tok,h.num,h.errs.fr p.fr (fun e=>by have:=h.gl;have L:3=c.pb:=e;omega),h.gl⟩
section
variable {P:Program} {n:Nat} {ops:Array Oper} {Q:Exit->Act->wD->Prop} {rest:List Oper} {l:Sl} {w:wD} {tab:Tab} {ty:TypeId} {pos:String} {after:Array Edge}
def VF {c:PC} {σ σ':PS} {x y:Operand} {t sz o:Nat} {s:Sk} {v:Value} (T:TabOk P tab) (G:Az tab t=some (s,sz)) (h:sz=1) (L:ev l x=some (.pointer (some ⟨c.pb,o,none⟩))) (M:ev l y=some v) (N:v.cells = #[v]) (O:fP v=true) (F:PP c σ w) (U:dW (o+1) 6=true)
 (V:(c.cells σ).set o v=c.cells σ') (X:σ'.at_<=c.ts.length) (k : ∀w1,PP c σ' w1->Fr (· = c.pb) w w1->LW P n ops Q rest l w1):LW P n ops Q (⟨none,.store t x y,ty,pos,after,none⟩::rest) l w:=
 Js T G L M (us:=[v]) N (by simp [h]) (by simp [O]) F.blk (by simpa using U) (fun w1 p=>by
  have e:Bl (c.cells σ) o [v]=c.cells σ':=by simp only [Bl];exact V
  rw [e] at p;exact k w1 (F.put p X) p.fr)
def B9 {c:PC} {σ:PS} {x y:Operand} {t sz:Nat} {s:Sk} (T:TabOk P tab) (F:Az tab t=some (s,sz)) (h:sz=1) (G:ev l x=some (.pointer (some ⟨c.pb,1,none⟩))) (L:ev l y=some (.int .i64 ((σ.at_:Int)+1))) (M:PP c σ w) (N:σ.at_<c.ts.length)
 (k : ∀w1,PP c (AA σ) w1->Fr (· = c.pb) w w1->LW P n ops Q rest l w1):LW P n ops Q (⟨none,.store t x y,ty,pos,after,none⟩::rest) l w:=
 VF (σ':=AA σ) T F h G L rfl rfl M rfl rfl N k
def Ug {c:PC} {σ:PS} {x y:Operand} {t sz:Nat} {s:Sk} {v:Int} (T:TabOk P tab) (G:Az tab t=some (s,sz)) (h:sz=1) (L:ev l x=some (.pointer (some ⟨c.pb,4,none⟩))) (M:ev l y=some (.int .i64 v)) (F:PP c σ w)
 (k : ∀w1,PP c ⟨σ.at_,v,σ.err⟩ w1->Fr (· = c.pb) w w1->LW P n ops Q rest l w1):LW P n ops Q (⟨none,.store t x y,ty,pos,after,none⟩::rest) l w:=
 VF (σ':=⟨σ.at_,v,σ.err⟩) T G h L M rfl rfl F rfl rfl F.at_ k
def Uh {c:PC} {σ:PS} {x y:Operand} {t sz:Nat} {s:Sk} {v:Int} (T:TabOk P tab) (G:Az tab t=some (s,sz)) (h:sz=1) (L:ev l x=some (.pointer (some ⟨c.pb,5,none⟩))) (M:ev l y=some (.int .i64 v)) (F:PP c σ w)
 (k : ∀w1,PP c ⟨σ.at_,σ.off,v⟩ w1->Fr (· = c.pb) w w1->LW P n ops Q rest l w1):LW P n ops Q (⟨none,.store t x y,ty,pos,after,none⟩::rest) l w:=
 VF (σ':=⟨σ.at_,σ.off,v⟩) T G h L M rfl rfl F rfl rfl F.at_ k
end
def LZ {ts:List Tok} {σ:PS} (h:σ.err≠0\/σ.at_=ts.length):AJ ts σ=Tok.zero:=by unfold AJ;rw [AG h]
def OC {ts:List Tok} {σ:PS} (h : ¬(σ.err≠0\/σ.at_=ts.length)) (F:σ.at_<ts.length):AJ ts σ=ts[σ.at_]:=by unfold AJ;rw [As h];simp [F]
def BE (c:PC) (σ:PS) (w:wD) (L:PP c σ w) :
 Calls prog 75 #[.pointer (some ⟨c.pb,0,none⟩)] w fun e w'=>e = .returned (AJ c.ts σ).val/\Ext w w':=by
 have a7:=L.at_;have X:=eU w;by_cases h:σ.err≠0\/σ.at_=c.ts.length
 . rw [LZ h];by_cases he:σ.err=0
   . have ha:σ.at_=c.ts.length:=h.resolve_left (fun e=>e he);refine Ac func75 ntmps75 rfl rfl ?_;refine cS (eA [_,_,_] ?_);intro b1 w2 h5 x6 p7 z8;revert L X;refine eE x6 ?_;intro L X;refine eK ?_;refine Ar (fun G=>Ext w2 G) 15 (.pure 0 (.pure 1 (.pure 2 (.pure 3 (.pure 4 (.pure 5 (.pure 6 (.pure 7 (.pure 8 (.pure 9 (.pure 10 (.pure 11 (.pure 12 (.pure 13 (.pure 14 .tail))))))))))))))) mixed A9 (Aa (Aa Ah)) ?_;intro w9 ai _;have aa:(fun G=>Ext w2 G) w9:=ai;simp only at aa;have az:=h5;have F:=L;revert h5 L X;refine eY ai ?_;intro a8 h5 L X;refine ⟨aa,?_⟩;refine eT ?_;refine Tq rfl (An Ad rfl rfl rfl (fun G M=>fD (fH (PP.blk F) M) rfl)) (Tq rfl V2 (Tq rfl Mv (eN rfl (AL rfl) (eN rfl (Bc rfl) (eN rfl (AO Ad rfl rfl rfl) (eN rfl (An Ad rfl rfl rfl (fun G M=>fD (fH (PP.blk F) M) rfl)) (eN rfl (AL rfl) (eN rfl (Bc rfl) (eN rfl (BN Ad rfl rfl rfl) (eN rfl (An Ad rfl rfl rfl (fun G M=>fD (fH (PP.blk F) M) rfl)) (eN rfl (Cp Ad rfl rfl) ?_)))))))))));refine At rfl ?_;refine eK ?_;refine C1 (xB [_,_,_]) (eS [_,_,_] h5 ?_);intro a9 ar f15 ba;clear h5 L;have X:=X.fr f15 Ab;refine eK ?_;refine xC ar ?_;exact ⟨rfl,X⟩
   . refine Ac func75 ntmps75 rfl rfl ?_
     focus
      refine cS (eA [_,_,_] ?_);intro bb aj O au bc bd;revert L X;refine eE au ?_;intro L X;refine eK ?_;refine Ar (fun G=>Ext aj G) 15 (.pure 0 (.pure 1 (.pure 2 (.pure 3 (.pure 4 (.pure 5 (.pure 6 (.pure 7 (.pure 8 (.pure 9 (.pure 10 (.pure 11 (.pure 12 (.pure 13 (.pure 14 .tail))))))))))))))) mixed A9 (Aa (Aa Ah)) ?_;intro av ab _;have U:(fun G=>Ext aj G) av:=ab;simp only at U;have aw:=O;have F:=L;revert O L X;refine eY ab ?_;intro a0 O L X;refine ⟨U,?_⟩;refine eT ?_;refine Tq rfl (An Ad rfl rfl rfl (fun G M=>fD (fH (PP.blk F) M) rfl)) (Tq rfl V2 (Tq rfl Mv (Dq rfl rfl rfl rfl (FP Ae) rfl (Dq rfl rfl rfl rfl (FP Ae) rfl (Dq rfl rfl rfl rfl (FP Ae) rfl (Dq rfl rfl rfl rfl (FP Ae) rfl (Dq rfl rfl rfl rfl (FP Ae) rfl (Dq rfl rfl rfl rfl (FP Ae) rfl (Dq rfl rfl rfl rfl (FP Ae) rfl (Dq rfl rfl rfl rfl (FP Ae) rfl (Dq rfl rfl rfl rfl (FP Ae) rfl ?_)))))))))));refine At rfl ?_;refine eK ?_;refine C1 (xB [_,_,_]) (eS [_,_,_] O ?_);intro a1 ak al a2;clear O L;have X:=X.fr al Ab;refine eK ?_;refine xC ak ?_;rotate_left
     exact ⟨rfl,X⟩
 . have he:σ.err=0:=Decidable.byContradiction fun e=>h (bW e)
   have am:σ.at_<c.ts.length:=by have:σ.at_≠c.ts.length:=fun e=>h (bX e);omega
   rw [OC h am];obtain ⟨tb,ax,be,-,ac⟩:=L.toks.get Ab;have Z:Row w ⟨tb,ax+σ.at_*3,none⟩ c.ts[σ.at_].cells:=ac σ.at_ _ (bT am);clear ac;refine Ac func75 ntmps75 rfl rfl ?_;refine cS (eA [_,_,_] ?_);intro bf an N ay bg bh;revert L X Z;refine eE ay ?_;intro L X Z;refine eK ?_;refine Ar (fun G=>Ext an G) 15 (.pure 0 (.pure 1 (.pure 2 (.pure 3 (.pure 4 (.pure 5 (.pure 6 (.pure 7 (.pure 8 (.pure 9 (.pure 10 (.pure 11 (.pure 12 (.pure 13 (.pure 14 .tail))))))))))))))) mixed A9 (Aa (Aa Ah)) ?_;intro ag ad _;have V:(fun G=>Ext an G) ag:=ad;simp only at V;have ah:=N;have F:=L;have ao:=Z;revert N L X Z;refine eY ad ?_;intro a3 N L X Z;refine ⟨V,?_⟩;refine eT ?_;refine Tq rfl (An Ad rfl rfl rfl (fun G M=>fD (fH (PP.blk F) M) rfl)) (Tq rfl V2 (Tq rfl Mv (eN rfl (AL rfl) (eN rfl (Bc rfl) (eN rfl (AO Ad rfl rfl rfl) (eN rfl (An Ad rfl rfl rfl (fun G M=>fD (fH (PP.blk F) M) rfl)) (eN rfl (AL rfl) (eN rfl (Bc rfl) (eN rfl (BN Ad rfl rfl rfl) (eN rfl (An Ad rfl rfl rfl (fun G M=>fD (fH (PP.blk F) M) rfl)) (eN rfl (Cp Ad rfl rfl) ?_)))))))))));refine At rfl ?_;refine eK ?_;refine Ar (fun G=>Ext ag G) 8 (.pure 0 (.pure 1 (.pure 2 (.pure 3 (.pure 4 (.pure 5 (.pure 6 (.pure 7 .tail)))))))) mixed A9 (Aa Ah) ?_;intro ap ae _;have Y:(fun G=>Ext ag G) ap:=ae;simp only at Y;have ah:=N;have F:=L;have ao:=Z;revert N L X Z;refine eY ae ?_;intro a4 N L X Z;refine ⟨Y,?_⟩;refine eT ?_;refine Tq rfl (An Ad rfl rfl rfl (fun G M=>fD (fH (PP.blk F) M) rfl)) ?_;refine eT ?_;refine Tq rfl (An Ad rfl rfl rfl (fun G M=>fD (fH (PP.blk F) M) rfl)) ?_;refine At rfl (C1 (GE Ad rfl rfl rfl Ae rfl Ab Ab) (C1 (W7 Z) (eS [_,_,_] N ?_)));intro a5 aq af a6;clear N L;have X:=X.fr af Ab;clear Z af;refine eK ?_;refine xC aq ?_
   exact ⟨rfl,X⟩
def Ie (c:PC) (σ:PS) (off e:Int) (w:wD) (h:PP c σ w) :
 Calls prog 116 #[.pointer (some ⟨c.pb,0,none⟩),.int .i64 off,.int .i64 e] w fun r w'=>r = .returned (.tuple #[])/\PP c (Dc σ off e) w'/\Fr (· = c.pb) w w':=by
 have X:=fC (· = c.pb) w;by_cases F:σ.err=0
 . rw [show Dc σ off e=⟨σ.at_,off,e⟩ from by simp [Dc,F]];refine Ac func116 ntmps116 rfl rfl ?_;refine cS (C1 Mv (C1 Pn (C1 Pf (C1 (Pl (PP.blk h)) ?_))));refine eK ?_;refine Ug Ad rfl rfl rfl rfl h ?_;rintro w1 M G;have z4:=G.size;clear h;have X:=X.fr G Ab;refine eK ?_;refine Uh Ad rfl rfl rfl rfl Ae ?_;rintro N O L;have U:=L.size;have X:=X.fr L Ab;refine Ak (Bs rfl ?_);exact ⟨rfl,Ae,X⟩
 . rw [show Dc σ off e=σ from by simp [Dc,F]];refine Ac func116 ntmps116 rfl rfl ?_;refine cS (C1 Mv (C1 Pn (C1 Pf (C1 (Pl (PP.blk h)) (C1 V1 (cT (U4 (Am (Bs rfl ?_)))))))));exact ⟨rfl,h,X⟩
def FC (c:PC) (σ:PS) (w:wD) (G:PP c σ w) :
 Calls prog 83 #[.pointer (some ⟨c.pb,0,none⟩)] w fun r w'=>r = .returned (.tuple #[])/\PP c (DU c.ts c.n σ) w'/\Fr (· = c.pb) w w':=by
 have X:=fC (· = c.pb) w;by_cases U:σ.at_<c.ts.length
 . rw [show DU c.ts c.n σ=Dc σ (c.ts[σ.at_]).pos 3 from by simp [DU,U]];obtain ⟨tb,ad,af,-,M⟩:=G.toks.get Ab;have V:Row w ⟨tb,ad+σ.at_*3,none⟩ c.ts[σ.at_].cells:=M σ.at_ _ (bT U);clear M;refine Ac func83 ntmps83 rfl rfl ?_;refine Ai (Ar (fun F=>Ext w F) 9 (.pure 0 (.pure 1 (.pure 2 (.pure 3 (.pure 4 (.pure 5 (.pure 6 (.pure 7 (.pure 8 .tail))))))))) mixed A9 (Aa Ah) ?_);intro w1 x2 _;have Z:(fun F=>Ext w F) w1:=x2;simp only at Z;have h:=G;have N:=V;revert G X V;refine eY x2 ?_;intro z4 G X V;refine ⟨Z,?_⟩;refine eT ?_;refine Tq rfl (An Ad rfl rfl rfl (fun F L=>fD (fH (PP.blk h) L) rfl)) ?_;refine eT ?_;refine Tq rfl (An Ad rfl rfl rfl (fun F L=>fD (fH (PP.blk h) L) rfl)) (Tq rfl Pz ?_);refine At rfl ?_;refine eK ?_;refine Ar (fun F=>Ext w1 F) 12 (.pure 0 (.pure 1 (.pure 2 (.pure 3 (.pure 4 (.pure 5 (.pure 6 (.pure 7 (.pure 8 (.pure 9 (.pure 10 (.pure 11 .tail)))))))))))) mixed A9 Ah ?_;intro w5 x6 _;have aa:(fun F=>Ext w1 F) w5:=x6;simp only at aa;have h:=G;have N:=V;revert G X V;refine eY x6 ?_;intro z8 G X V;refine ⟨aa,?_⟩;refine eT ?_;refine Tq rfl (An Ad rfl rfl rfl (fun F L=>fD (fH (PP.blk h) L) rfl)) ?_;refine eT ?_;refine Tq rfl (An Ad rfl rfl rfl (fun F L=>fD (fH (PP.blk h) L) rfl)) (Tq rfl (GE Ad rfl rfl rfl Ae rfl Ab Ab) (Tq rfl Pf (Tq rfl (Dr N) ?_)));refine At rfl (cC rfl (Ie _ _ _ _ _ Ae) ?_)
   rintro _ ag ⟨⟨⟩,⟨h9,Y⟩⟩;have ah:=Y.size;clear G;have X:=X.fr Y Ab;clear V Y;refine Ak (Bs rfl ?_);exact ⟨rfl,Ae,X⟩
 . rw [show DU c.ts c.n σ=Dc σ c.n 4 from by simp [DU,U]];refine Ac func83 ntmps83 rfl rfl ?_;refine Ai (Ar (fun F=>Ext w F) 9 (.pure 0 (.pure 1 (.pure 2 (.pure 3 (.pure 4 (.pure 5 (.pure 6 (.pure 7 (.pure 8 .tail))))))))) mixed A9 (Aa Ah) ?_);intro ae ab _;have O:(fun F=>Ext w F) ae:=ab;simp only at O;have h:=G;revert G X;refine eY ab ?_;intro ai G X;refine ⟨O,?_⟩;refine eT ?_;refine Tq rfl (An Ad rfl rfl rfl (fun F L=>fD (fH (PP.blk h) L) rfl)) ?_;refine eT ?_;refine Tq rfl (An Ad rfl rfl rfl (fun F L=>fD (fH (PP.blk h) L) rfl)) (Tq rfl Pz ?_);refine At rfl (C1 V3 (cT (Ds (Aj (C1 Mv (C1 Mv (C1 Pn (C1 Pf (C1 (Pl (PP.blk G)) (cC rfl (Ie _ _ _ _ _ Ae) ?_))))))))));rintro _ aj ⟨⟨⟩,⟨ak,ac⟩⟩;have al:=ac.size;clear G;have X:=X.fr ac Ab;refine Ak (Bs rfl ?_);exact ⟨rfl,Ae,X⟩
def JP (c:PC) (σ:PS) (t:lB) (w:wD) (F:PP c σ w) (N:t≠[]) :
 Calls prog 82 #[.pointer (some ⟨c.pb,0,none⟩),str t] w fun r w'=>r = .returned (.bool (DA c.ts σ t))/\PP c (D4 c.ts σ t) w'/\Fr (· = c.pb) w w':=by
 have X:=fC (· = c.pb) w;have Z:=F.len;by_cases h:(AJ c.ts σ).text=t
 . have G:DA c.ts σ t=true:=by simp [DA,h]
   rw [show D4 c.ts σ t=AA σ from by simp [D4,G],G];obtain ⟨h2,O⟩:=Ct F.at_ G N;refine Ac func82 ntmps82 rfl rfl ?_;refine eK ?_;refine cC rfl (BE _ _ _ Ae) ?_;rintro _ w2 ⟨⟨⟩,U⟩;revert F X;refine eY U ?_;intro z3 F X;refine C1 (Bn Ad rfl rfl rfl rfl rfl rfl) (C1 Mv (C1 V9 (cT (Fu rfl (not_not_intro Ae) (Am (Ag (cS (C1 Mv (C1 Pn (C1 Pf (C1 (Pl (PP.blk F)) ?_)))))))))));refine eK ?_;refine B9 Ad rfl rfl rfl rfl Ae O ?_;rintro w4 h5 M;have z7:=M.size;clear F;have X:=X.fr M Ab;refine eK ?_;refine xR ?_;exact ⟨rfl,Ae,X⟩
 . have G:DA c.ts σ t=false:=by simp [DA,h]
   rw [show D4 c.ts σ t=σ from by simp [D4,G],G];refine Ac func82 ntmps82 rfl rfl ?_;refine eK ?_;refine cC rfl (BE _ _ _ Ae) ?_;rintro _ V ⟨⟨⟩,L⟩;revert F X;refine eY L ?_;intro Y F X;refine C1 (Bn Ad rfl rfl rfl rfl rfl rfl) ?_;refine eK ?_;refine xR ?_;exact ⟨rfl,Ae,X⟩
def DD (c:PC) (σ:PS) (t:lB) (w:wD) (F:PP c σ w) (G:t≠[]) (h:DA c.ts σ t=true) :
 Calls prog 82 #[.pointer (some ⟨c.pb,0,none⟩),str t] w fun r w'=>r = .returned (.bool true)/\PP c (AA σ) w'/\Fr (· = c.pb) w w':=by
 have:=JP c σ t w F G;rw [show D4 c.ts σ t=AA σ from by simp [D4,h],h] at this;exact this
def C2 (c:PC) (σ:PS) (t:lB) (w:wD) (F:PP c σ w) (G:t≠[]) (h:DA c.ts σ t=false) :
 Calls prog 82 #[.pointer (some ⟨c.pb,0,none⟩),str t] w fun r w'=>r = .returned (.bool false)/\PP c σ w'/\Fr (· = c.pb) w w':=by
 have:=JP c σ t w F G;rw [show D4 c.ts σ t=σ from by simp [D4,h],h] at this;exact this
def CT (c:PC) (σ:PS) (t:lB) (w:wD) (M:PP c σ w) (Z:t≠[]) :
 Calls prog 45 #[.pointer (some ⟨c.pb,0,none⟩),str t] w fun r w'=>r = .returned (.tuple #[])/\PP c (AW c.ts c.n σ t) w'/\Fr (· = c.pb) w w':=by
 have X:=fC (· = c.pb) w;cases h:DA c.ts σ t
 . have G:D4 c.ts σ t=σ:=by simp [D4,h]
   have L:AW c.ts c.n σ t=DU c.ts c.n σ:=by simp [AW,h]
   rw [L];refine Ac func45 ntmps45 rfl rfl ?_;refine eK ?_;refine cC rfl (JP _ _ _ _ Ae Ae) ?_;rintro _ w3 ⟨⟨⟩,⟨h1,N⟩⟩;have z4:=N.size;clear M;have X:=X.fr N Ab;refine C1 Pt (cT (YO rfl Ae ?_));refine eK ?_;refine cC rfl (FC _ _ _ Ae) ?_;rintro _ w7 ⟨⟨⟩,⟨h5,O⟩⟩;have z8:=O.size;have X:=X.fr O Ab;refine Ak (Bs rfl ?_);exact ⟨rfl,by rw [G] at *;assumption,X⟩
 . have G:D4 c.ts σ t=AA σ:=by simp [D4,h]
   have L:AW c.ts c.n σ t=AA σ:=by simp [AW,h]
   rw [L];refine Ac func45 ntmps45 rfl rfl ?_;refine eK ?_;refine cC rfl (JP _ _ _ _ Ae Ae) ?_;rintro _ U ⟨⟨⟩,⟨V,F⟩⟩;have Y:=F.size;clear M;have X:=X.fr F Ab;refine C1 Pt (cT (YP rfl Ae (Am (Bs rfl ?_))));exact ⟨rfl,by rw [G] at *;assumption,X⟩
def P8 {c:PC} {σ:PS} {w:wD} (G:PP c σ w):(AJ c.ts σ).text.length<=1000000:=by
 by_cases h:σ.err≠0\/σ.at_=c.ts.length
 . rw [LZ h];simp [Tok.zero]
 . have F:σ.at_<c.ts.length:=by have:σ.at_≠c.ts.length:=fun e=>h (bX e);have:=G.at_;omega
   rw [OC h F];exact G.tok _ (cL F)
def TreeR (c:PC) (w:wD) (r:Nd×PS):Ending->wD->Prop:=fun e w'=> ∃a k,e = .returned (r.1.val a k)/\r.1.sits (fun b=>w.heap.size<=b/\b<w'.heap.size) w' a/\PP c r.2 w'/\Fr (· = c.pb) w w'
def A4 {c:PC} {w w':wD} {r:Nd×PS} {a:oA} {k:Nat} (h:r.1.sits (w.heap.size <= ·) w' a) (F:PP c r.2 w') (X:Fr (· = c.pb) w w'):TreeR c w r (.returned (r.1.val a k)) w':=
 ⟨a,k,rfl,GI _ _ h,F,X⟩
def TreeR.ret {c:PC} {w:wD} {r:Nd×PS} {e:Ending} {w':wD} (h:TreeR c w r e w') : ∃v,e = .returned v:=by
 obtain ⟨_,_,h,-⟩:=h;exact ⟨_,h⟩
def G9 (c:PC) (σ:PS) (w:wD) (F:PP c σ w) :
 Calls prog 114 #[.pointer (some ⟨c.pb,0,none⟩)] w fun r w'=>r = .returned (str (BJ c.ts c.n σ).1)/\PP c (BJ c.ts c.n σ).2 w'/\Fr (· = c.pb) w w':=by
 have X:=fC (· = c.pb) w;have hl:=F.len;have ah:=P8 F;have ai:=F.pbB;have hB:=F.B;cases h:CF (AJ c.ts σ).text
 . rw [show BJ c.ts c.n σ=([],DU c.ts c.n σ) from by simp [BJ,h]];refine Ac func114 ntmps114 rfl rfl ?_;refine eK ?_;refine cC rfl (BE _ _ _ Ae) ?_;rintro _ w2 ⟨⟨⟩,x1⟩;revert F X;refine eY x1 ?_;intro z3 F X;refine xA [_,_,_] ?_;intro b4 w5 n6;refine eI [_,_,_] n6 ?_;intro w7 O x9 aj ak;revert F X;refine eE x9 ?_;intro F X;refine eK ?_;refine cC rfl (I8 _ _ Ab) ?_;rintro _ al ⟨⟨⟩,U⟩;revert O F X;refine eY U ?_;intro am O F X;refine C1 Pt (cT (YO rfl Ae ?_));refine eK ?_;refine cC rfl (FC _ _ _ Ae) ?_;rintro _ an ⟨⟨⟩,⟨ao,M⟩⟩;have ap:=M.size;have O:=O.fr M Ab;clear F;have X:=X.fr M Ab;refine eK ?_;refine xR ?_;exact ⟨rfl,Ae,X⟩
 . rw [show BJ c.ts c.n σ=((AJ c.ts σ).text,AA σ) from by simp [BJ,h]];obtain ⟨h2,h3⟩:=DO F.at_ (bW (NF h));refine Ac func114 ntmps114 rfl rfl ?_;refine eK ?_;refine cC rfl (BE _ _ _ Ae) ?_;rintro _ aq ⟨⟨⟩,V⟩;revert F X;refine eY V ?_;intro ar F X;refine xA [_,_,_] ?_;intro au av Y;refine eI [_,_,_] Y ?_;intro aw L Z aa ab;revert F X;refine eE Z ?_;intro F X;refine eK ?_;refine cC rfl (I8 _ _ Ab) ?_;rintro _ ac ⟨⟨⟩,N⟩;revert L F X;refine eY N ?_;intro ad L F X;refine C1 Pt (cT (YP rfl Ae (Am (Ag (cS (C1 Mv (C1 Pn (C1 Pf (C1 (Pl (PP.blk F)) ?_)))))))));refine eK ?_;refine B9 Ad rfl rfl rfl rfl Ae h3 ?_;rintro ae af G;have ag:=G.size;have L:=L.fr G Ab;clear F;have X:=X.fr G Ab;refine eK ?_;refine xR ?_;exact ⟨rfl,Ae,X⟩
def Ha (c:PC) (σ:PS) (w:wD) (F:PP c σ w) :
 Calls prog 115 #[.pointer (some ⟨c.pb,0,none⟩)] w (TreeR c w (ED c.ts c.n σ)):=by
 have X:=fC (· = c.pb) w;have N:=F.pbB;have hB:=F.B;refine Ac func115 ntmps115 rfl rfl ?_;refine cS (eA [_,_,_,_] ?_);intro b1 w2 G O p7 z8;revert F X;refine eE O ?_;intro F X;refine eK ?_;refine cC rfl (G9 _ _ _ Ae) ?_;rintro _ U ⟨⟨⟩,⟨M,h⟩⟩;have V:=h.size;have G:=G.fr h Ab;clear F;have X:=X.fr h Ab;refine C1 (xB [_,_,_,_]) (eS [_,_,_,_] G ?_);intro Y L f15 Z;revert M X;refine eF f15 ?_;intro M X;refine eK ?_;refine xC L ?_;exact A4 CZ Ae X
def KT (c:PC) (σ:PS) (kind:Int) (w:wD) (M:PP c σ w) :
 Calls prog 177 #[.pointer (some ⟨c.pb,0,none⟩),.int .u8 kind] w (TreeR c w (.mk kind 0 (BJ c.ts c.n (AW c.ts c.n σ [40])).1 [],AW c.ts c.n (BJ c.ts c.n (AW c.ts c.n σ [40])).2 [41])):=by
 have X:=fC (· = c.pb) w;have ab:=M.pbB;have hB:=M.B;refine Ac func177 ntmps177 rfl rfl ?_;refine cS (eA [_,_,_,_] ?_);intro b1 w2 h x6 p7 z8;revert M X;refine eE x6 ?_;intro M X;refine eK ?_;refine cC rfl (CT _ _ _ _ Ae AY) ?_;rintro _ ac ⟨⟨⟩,⟨h9,G⟩⟩;have ad:=G.size;have h:=h.fr G Ab;clear M;have X:=X.fr G Ab;refine eK ?_;refine cC rfl (G9 _ _ _ Ae) ?_;rintro _ ae ⟨⟨⟩,⟨N,O⟩⟩;have af:=O.size;revert h X;refine eF O ?_;intro h X;refine C1 (xB [_,_,_,_]) (xA [_,_,_,_] ?_);intro ag ah V;refine eI [_,_,_,_] V ?_;intro ai F Y aj ak;revert N h X;refine eE Y ?_;intro N h X;refine eK ?_;refine cC rfl (CT _ _ _ _ Ae AY) ?_;rintro _ al ⟨⟨⟩,⟨U,L⟩⟩;have z28:=L.size;have F:=F.fr L Ab;revert h X;refine eF L ?_;intro h X;refine eK ?_;refine eS [_,_,_,_] h ?_;intro am Z aa an;revert U F X;refine eF aa ?_;intro U F X;refine eK ?_;refine xC Z ?_;exact A4 CZ Ae X
def Dw (a:Nat) (s:lB):Nat:=s.foldl (fun a c=>a*10+(c.toNat-48)) a
def M5 (s:lB) : ∀a,a<=Dw a s:=by
 induction s with
 | nil=>intro a;exact cH _
 | cons c r h=>intro a;have:=h (a*10+(c.toNat-48));simp only [Dw,List.foldl_cons] at this ⊢;omega
def GK : ∀(s:lB) (a:Nat),a<18446744073709551616->(∀c∈s,Do c=true) ->
 (Lib.parseUint10 a s = .ok (Dw a s)/\Dw a s<18446744073709551616)\/(Lib.parseUint10 a s = .range/\18446744073709551616<=Dw a s)
 | [],a,h,_=>bW ⟨rfl,h⟩
 | c::r,a,h,F=>by
  have G:=F c List.mem_cons_self;simp only [Do,bZ,decide_eq_true_eq] at G;have N : ∀x∈r,Do x=true:=fun x O=>F x (List.mem_cons_of_mem _ O)
  have U:=M5 r (a*10+(c.toNat-48));have V:Dw a (c::r)=Dw (a*10+(c.toNat-48)) r:=rfl;rw [V];simp only [Lib.parseUint10,G,and_self,if_true];by_cases L:1844674407370955162<=a
  . rw [AG L];exact bX ⟨rfl,Ab⟩
  . rw [As L];by_cases M:18446744073709551616<=a*10+(c.toNat-48)
    . rw [AG M];exact bX ⟨rfl,Ab⟩
    . rw [As M];exact GK r _ Ab N
def KU (s:lB) (N:s≠[]) (M : ∀c∈s,Do c=true) :
 Lib.atoiAll s=if (B4 s:Int)<=9223372036854775807 then .ok (B4 s) else .range:=by
 cases s with
 | nil=>exact absurd rfl N
 | cons c r=>
  have O:=M c List.mem_cons_self;simp only [Do,bZ,decide_eq_true_eq] at O;have F : ¬c.toNat=45:=by omega
  have G : ¬c.toNat=43:=by omega
  have e:B4 (c::r)=Dw 0 (c::r):=rfl;rw [e];have U:Lib.parseMag (c::r)=Lib.parseUint10 0 (c::r):=by simp [Lib.parseMag]
  unfold Lib.atoiAll;simp only [F,G,or_self,if_false,U,not_false_eq_true,true_and,false_and];rcases GK (c::r) 0 Ab M with ⟨L,V⟩|⟨L,V⟩
  . rw [L];simp only;by_cases h:9223372036854775808<=Dw 0 (c::r)
    . rw [AG h,As Ab]
    . rw [As h,AG Ab]
  . rw [L,As Ab]
def Ext.bytes (w:wD) (e:TypeId) (s:ByteArray):Ext w (Lib.bytesWorld w e s):=Lib.bytesWorld_below w e s
def OD (s:lB) (w:wD) (G:s≠[]) (L : ∀c∈s,Do c=true) (M:s.length<=1000000) (h:(B4 s:Int)<=9223372036854775807) :
 Calls prog 188 #[str s] w fun e w'=>e = .returned (.tuple #[.int .i64 (B4 s),.nilIface])/\Ext w w':=by
 have F:=KU s G L;rw [AG h] at F;refine (Tryz.strconv_Atoi_ok ⟨s.toArray⟩ (by rw [Li];omega) (B4 s) (by simpa using F) w).mono ?_;rintro e w' ⟨rfl,rfl|⟨t,rfl⟩⟩
 . exact ⟨rfl,eU _⟩
 . exact ⟨rfl,Ext.bytes _ _ _⟩
def RR (s:lB) (w:wD) (L:s≠[]) (M : ∀c∈s,Do c=true) (Z:s.length<=1000000) (h : ¬(B4 s:Int)<=9223372036854775807) (U:Errs w) :
 Calls prog 188 #[str s] w fun e w'=> ∃F G,e = .returned (.tuple #[.int .i64 9223372036854775807,.iface F G])/\Ext w w':=by
 have O:=KU s L M;rw [As h] at O;obtain ⟨F,G,V⟩:=U.ex;refine (Tryz.strconv_Atoi_range ⟨s.toArray⟩ (by rw [Li];omega) (by simpa using O) (.iface F G) w V (bX ⟨F,G,rfl⟩)).mono ?_;rintro e w' ⟨N,rfl,-,-,X⟩;have:Lib.atoiSat (⟨s.toArray⟩:ByteArray).data.toList=9223372036854775807:=by
  cases s with
  | nil=>exact absurd rfl L
  | cons c r=>
   have Y:=M c List.mem_cons_self;simp only [Do,bZ,decide_eq_true_eq] at Y;simp [Lib.atoiSat];omega
 rw [this];exact ⟨_,_,rfl,X⟩
def VG {c:PC} {σ:PS} {w:wD} (L:PP c σ w) (h:(AJ c.ts σ).kind=2):(AJ c.ts σ).text≠[] /\ ∀x∈(AJ c.ts σ).text,Do x=true:=by
 by_cases G:σ.err≠0\/σ.at_=c.ts.length
 . rw [LZ G] at h;simp [Tok.zero] at h
 . have F:σ.at_<c.ts.length:=by have:σ.at_≠c.ts.length:=fun e=>G (bX e);have:=L.at_;omega
   rw [OC G F] at h ⊢;exact L.num _ (cL F) h
def VH (c:PC) (σ:PS) (F L:Int) (w:wD) (G:PP c σ w) (h0 : -1<=F) :
 Calls prog 176 #[.pointer (some ⟨c.pb,0,none⟩),.int .i64 F,.int .i64 L] w fun r w'=>r = .returned (.int .i64 (CU c.ts c.n F L σ).1)/\PP c (CU c.ts c.n F L σ).2 w'/\Fr (· = c.pb) w w':=by
 have X:=fC (· = c.pb) w;have hl:=G.len;have aa:=P8 G;have b2:=G.pbB;have hB:=G.B;by_cases hk:(AJ c.ts σ).kind=2
 . obtain ⟨h2,h3⟩:=DO G.at_ (bX (show (AJ c.ts σ).kind≠0 by omega));obtain ⟨d1,d2⟩:=VG G hk;by_cases hr:(B4 (AJ c.ts σ).text:Int)<=9223372036854775807
   . by_cases ai:F<=(B4 (AJ c.ts σ).text:Int)/\(B4 (AJ c.ts σ).text:Int)<=L
     . obtain ⟨r1,r2⟩:=ai;rw [show CU c.ts c.n F L σ=((B4 (AJ c.ts σ).text:Int),AA σ) from by simp [CU,hk,hr,r1,r2]];refine Ac func176 ntmps176 rfl rfl ?_;refine eK ?_;refine cC rfl (BE _ _ _ Ae) ?_;rintro _ w2 ⟨⟨⟩,x1⟩;revert G X;refine eY x1 ?_;intro z3 G X;refine xA [_,_,_] ?_;intro b4 w5 n6;refine eI [_,_,_] n6 ?_;intro w7 h8 x9 b3 b5;revert G X;refine eE x9 ?_;intro G X;refine cT (Ai (cS (C1 Pg (C1 (Pl h8) (C1 V2 (cT (Ds (Am (Ag (cS (C1 Mv ?_)))))))))));refine C1 Pn (C1 Pf (C1 (Pl (PP.blk G)) ?_));refine eK ?_;refine B9 Ad rfl rfl rfl rfl Ae h3 ?_;rintro b6 aj ah;have b7:=ah.size;have h8:=h8.fr ah Ab;clear G;have X:=X.fr ah Ab;refine eK ?_;refine cC rfl (OD _ _ d1 d2 aa hr) ?_;rintro _ b8 ⟨⟨⟩,ao⟩;revert aj h8 X;refine eY ao ?_;intro b9 aj h8 X;refine eK ?_;refine C1 (Ly Ad rfl rfl) ?_;refine eK ?_;refine xR ?_;exact ⟨rfl,Ae,X⟩
     . rw [show CU c.ts c.n F L σ=(0,Dc (AA σ) (AJ c.ts σ).pos 2) from by simp [CU,hk,hr,ai]];by_cases r1:F<=(B4 (AJ c.ts σ).text:Int)
       . have r2:L<(B4 (AJ c.ts σ).text:Int):=by omega
         refine Ac func176 ntmps176 rfl rfl ?_;refine eK ?_;refine cC rfl (BE _ _ _ Ae) ?_;rintro _ ca ⟨⟨⟩,ap⟩;revert G X;refine eY ap ?_;intro cb G X;refine xA [_,_,_] ?_;intro cc cd aq;refine eI [_,_,_] aq ?_;intro ce M ar a5 a6;revert G X;refine eE ar ?_;intro G X;refine cT (Ai (cS (C1 Pg (C1 (Pl M) (C1 V2 (cT (Ds (Am (Ag (cS (C1 Mv ?_)))))))))));refine C1 Pn (C1 Pf (C1 (Pl (PP.blk G)) ?_));refine eK ?_;refine B9 Ad rfl rfl rfl rfl Ae h3 ?_;rintro a7 ab U;have a8:=U.size;have M:=M.fr U Ab;clear G;have X:=X.fr U Ab;refine eK ?_;refine cC rfl (OD _ _ d1 d2 aa hr) ?_;rintro _ a9 ⟨⟨⟩,ak⟩;revert ab M X;refine eY ak ?_;intro ba ab M X;refine eK ?_;refine C1 (Ly Ad rfl rfl) ?_;refine eK ?_;refine cC rfl (Ie _ _ _ _ _ Ae) ?_;rintro _ bb ⟨⟨⟩,⟨bc,ac⟩⟩;have bd:=ac.size;revert M X;refine eF ac ?_;intro M X;refine eK ?_;refine xR ?_;exact ⟨rfl,Ae,X⟩
       . refine Ac func176 ntmps176 rfl rfl ?_;refine eK ?_;refine cC rfl (BE _ _ _ Ae) ?_;rintro _ cf ⟨⟨⟩,au⟩;revert G X;refine eY au ?_;intro cg G X;refine xA [_,_,_] ?_;intro ch ci av;refine eI [_,_,_] av ?_;intro cj N aw be bf;revert G X;refine eE aw ?_;intro G X;refine cT (Ai (cS (C1 Pg (C1 (Pl N) (C1 V2 (cT (Ds (Am (Ag (cS (C1 Mv ?_)))))))))));refine C1 Pn (C1 Pf (C1 (Pl (PP.blk G)) ?_));refine eK ?_;refine B9 Ad rfl rfl rfl rfl Ae h3 ?_;rintro bg ad V;have bh:=V.size;have N:=N.fr V Ab;clear G;have X:=X.fr V Ab;refine eK ?_;refine cC rfl (OD _ _ d1 d2 aa hr) ?_;rintro _ bi ⟨⟨⟩,al⟩;revert ad N X;refine eY al ?_;intro bj ad N X;refine eK ?_;refine C1 (Ly Ad rfl rfl) ?_;refine eK ?_;refine cC rfl (Ie _ _ _ _ _ Ae) ?_;rintro _ bk ⟨⟨⟩,⟨bl,ae⟩⟩;have bm:=ae.size;revert N X;refine eF ae ?_;intro N X;refine eK ?_;refine xR ?_;exact ⟨rfl,Ae,X⟩
   . rw [show CU c.ts c.n F L σ=(0,Dc (AA σ) (AJ c.ts σ).pos 2) from by simp [CU,hk,hr]];refine Ac func176 ntmps176 rfl rfl ?_;refine eK ?_;refine cC rfl (BE _ _ _ Ae) ?_;rintro _ ck ⟨⟨⟩,ax⟩;revert G X;refine eY ax ?_;intro cl G X;refine xA [_,_,_] ?_;intro cm cn ay;refine eI [_,_,_] ay ?_;intro co O az bn bo;revert G X;refine eE az ?_;intro G X;refine cT (Ai (cS (C1 Pg (C1 (Pl O) (C1 V2 (cT (Ds (Am (Ag (cS (C1 Mv ?_)))))))))));refine C1 Pn (C1 Pf (C1 (Pl (PP.blk G)) ?_));refine eK ?_;refine B9 Ad rfl rfl rfl rfl Ae h3 ?_;rintro bp af Y;have bq:=Y.size;have O:=O.fr Y Ab;clear G;have X:=X.fr Y Ab;refine eK ?_;refine AC (AU A9 rfl (RR _ _ d1 d2 aa hr (PP.errs Ae)) (fun _ _ ⟨_,_,h⟩=>⟨_,h.1⟩)) rfl ?_ aFh;rintro _ br ⟨a0,⟨a1,⟨⟨⟩,am⟩⟩⟩;revert af O X;refine eY am ?_;intro bs af O X;refine eK ?_;refine C1 (Vd Ad rfl rfl) ?_;refine eK ?_;refine cC rfl (Ie _ _ _ _ _ Ae) ?_;rintro _ bt ⟨⟨⟩,⟨bu,ag⟩⟩;have bv:=ag.size;revert O X;refine eF ag ?_;intro O X;refine eK ?_;refine xR ?_;exact ⟨rfl,Ae,X⟩
 . rw [show CU c.ts c.n F L σ=(0,DU c.ts c.n σ) from by simp [CU,hk]];refine Ac func176 ntmps176 rfl rfl ?_;refine eK ?_;refine cC rfl (BE _ _ _ Ae) ?_;rintro _ cp ⟨⟨⟩,a2⟩;revert G X;refine eY a2 ?_;intro cq G X;refine xA [_,_,_] ?_;intro cr ct a3;refine eI [_,_,_] a3 ?_;intro cu an a4 bw bx;revert G X;refine eE a4 ?_;intro G X;refine eK ?_;refine cC rfl (FC _ _ _ Ae) ?_;rintro _ bz ⟨⟨⟩,⟨b0,Z⟩⟩;have b1:=Z.size;have an:=an.fr Z Ab;clear G;have X:=X.fr Z Ab;refine eK ?_;refine xR ?_;exact ⟨rfl,Ae,X⟩
section
variable {ts:List Tok} {n:Int}
def mS (ts:List Tok) (σ:PS):Nat:=if σ.err=0 then ts.length-σ.at_ else 0
def Ed {σ σ':PS} (h:Le ts σ σ'):mS ts σ'<=mS ts σ:=by
 unfold mS;by_cases F:σ'.err=0
 . have:=h.ok F;have:=h.le;rw [AG F,AG Ae];omega
 . rw [As F];omega
def ZY {σ σ':PS} (h:Le ts σ σ') (k:Lt σ σ'):mS ts σ'+1<=mS ts σ\/mS ts σ'=0:=by
 unfold mS;by_cases F:σ'.err=0
 . have:=h.ok F;have:=k F;have:=h.wf;rw [AG F,AG Ae];omega
 . rw [As F];exact bX rfl
def Ff {σ:PS} (h:σ.err=0/\σ.at_<ts.length):mS ts (AA σ)+1=mS ts σ:=by
 unfold mS AA;simp only [h.1,if_true];omega
end
def YR (c:PC) (k:Nat):Prop:= ∀(lv:Int) (σ:PS) (w:wD),PP c σ w->4*mS c.ts σ+4<=k->1<=lv->lv<=9 ->
 Calls prog 117 #[.pointer (some ⟨c.pb,0,none⟩),.int .i64 lv] w (TreeR c w (Cn c.ts c.n k lv σ))
def VI (c:PC) (k:Nat):Prop:= ∀(σ:PS) (w:wD),PP c σ w->4*mS c.ts σ+3<=k ->
 Calls prog 144 #[.pointer (some ⟨c.pb,0,none⟩)] w (TreeR c w (BK c.ts c.n k σ))
def P9 (c:PC) (k:Nat):Prop:= ∀(σ:PS) (w:wD),PP c σ w->4*mS c.ts σ+2<=k ->
 Calls prog 163 #[.pointer (some ⟨c.pb,0,none⟩)] w (TreeR c w (BY c.ts c.n k σ))
def VJ (c:PC) (k:Nat):Prop:= ∀(σ:PS) (w:wD),PP c σ w->4*mS c.ts σ+1<=k ->
 Calls prog 113 #[.pointer (some ⟨c.pb,0,none⟩)] w (TreeR c w (CB c.ts c.n k σ))
structure ExprsC (c:PC) (k:Nat):Prop where
 expr:YR c k
 unary:VI c k
 primary:P9 c k
 place:VJ c k
def OE {c:PC} {σ:PS} {t:lB} (h:σ.at_<=c.ts.length) (F:DA c.ts σ t=true) (G:t≠[]):mS c.ts (AA σ)+1=mS c.ts σ:=Ff (Ct h F G)
def XF (c:PC) (k:Nat) (IH : ∀j,j<=k->ExprsC c j):VJ c (k+1):=by
 intro σ w U hk;have X:=fC (· = c.pb) w;have bc:=U.pbB;have hB:=U.B;have hn:=BW (n:=c.n) U.at_;cases hh:DA c.ts (BJ c.ts c.n σ).2 [91]
 . rw [show CB c.ts c.n (k+1) σ=(.mk 2 0 (BJ c.ts c.n σ).1 [],(BJ c.ts c.n σ).2) from by rw [CB];simp [hh]];refine Ac func113 ntmps113 rfl rfl ?_;refine cS (eA [_,_,_,_] ?_);intro b1 w2 h5 x6 p7 z8;revert U X;refine eE x6 ?_;intro U X;refine eK ?_;refine cC rfl (G9 _ _ _ Ae) ?_;rintro _ bd ⟨⟨⟩,⟨h9,ac⟩⟩;have be:=ac.size;have h5:=h5.fr ac Ab;clear U;have X:=X.fr ac Ab;refine eK ?_;refine cC rfl (C2 _ _ _ _ Ae AY Ae) ?_;rintro _ bf ⟨⟨⟩,⟨ad,ae⟩⟩;have bg:=ae.size;revert h5 X;refine eF ae ?_;intro h5 X;refine eK ?_;refine C1 (xB [_,_,_,_]) (eS [_,_,_,_] h5 ?_);intro bh ak al z20;revert ad X;refine eF al ?_;intro ad X;refine eK ?_;refine xC ak ?_;exact A4 CZ Ae X
 . rw [show CB c.ts c.n (k+1) σ=(.mk 3 0 (BJ c.ts c.n σ).1 [(Cn c.ts c.n k 1 (AA (BJ c.ts c.n σ).2)).1],AW c.ts c.n (Cn c.ts c.n k 1 (AA (BJ c.ts c.n σ).2)).2 [93]) from by rw [CB];simp [hh]];have hm:=OE hn.wf hh AY;have bi:=Ed hn;have hf:4*mS c.ts (AA (BJ c.ts c.n σ).2)+4<=k:=by omega
   refine Ac func113 ntmps113 rfl rfl ?_;refine cS (eA [_,_,_,_] ?_);intro bj bk F am bl bm;revert U X;refine eE am ?_;intro U X;refine eK ?_;refine cC rfl (G9 _ _ _ Ae) ?_;rintro _ an ⟨⟨⟩,⟨bn,O⟩⟩;have ao:=O.size;have F:=F.fr O Ab;clear U;have X:=X.fr O Ab;refine eK ?_;refine cC rfl (DD _ _ _ _ Ae AY Ae) ?_;rintro _ ap ⟨⟨⟩,⟨aq,V⟩⟩;have ar:=V.size;revert F X;refine eF V ?_;intro F X;refine eK ?_;refine eQ rfl ((IH k (cH _)).expr _ _ _ Ae hf AY AY) ?_;rintro _ au ⟨av,⟨aw,⟨⟨⟩,⟨G,⟨Y,Z⟩⟩⟩⟩⟩;have ax:=Z.size;revert F X;refine eF Z ?_;intro F X;refine xA [_,_,_,_] ?_;intro ay az af;refine eI [_,_,_,_] af ?_;intro a0 L ag a1 a2;revert G Y F X;refine eE ag ?_;intro G Y F X;refine eK ?_;refine cC rfl (CT _ _ _ _ Ae AY) ?_;rintro _ a3 ⟨⟨⟩,⟨M,aa⟩⟩;revert L G;refine eZ aa ?_;intro a4 L G;revert F X;refine eF aa ?_;intro F X;refine eK ?_;refine AC (xS [_,_,_,_]) rfl ?_ aFh;rintro _ a5 ⟨a6,rfl,N,a7⟩;have ab:=N.blk;have ah:=N.ext;have a8:=N.pos;have a9:=N.size;revert M L G F X;refine eE ah ?_;intro M L G F X;refine C1 (xB [_,_,_,_]) (eS [_,_,_,_] F ?_);intro ba ai aj bb;revert ab M L G X;refine eF aj ?_;intro ab M L G X;refine eK ?_;refine xC ai ?_
   exact A4 (Kr Ae Ab Ae (fun b h=>by omega)) Ae X
def Ui (c:PC) (k:Nat) (IH : ∀j,j<=k->ExprsC c j):P9 c (k+1):=by
 intro σ w hP hk;have X:=fC (· = c.pb) w;have hpb:=hP.pbB;have hB:=hP.B;by_cases h2:(AJ c.ts σ).kind=2
 . rw [show BY c.ts c.n (k+1) σ=(.mk 1 (CU c.ts c.n 0 9223372036854775807 σ).1 [] [],(CU c.ts c.n 0 9223372036854775807 σ).2) from by rw [BY];simp [h2]];refine Ac func163 ntmps163 rfl rfl ?_;refine cS (eA [_,_,_,_] ?_);intro b1 w2 h5 x6 p7 z8;revert hP X;refine eE x6 ?_;intro hP X;refine eK ?_;refine cC rfl (BE _ _ _ Ae) ?_;rintro _ ci ⟨⟨⟩,x9⟩;revert h5 hP X;refine eY x9 ?_;intro cj h5 hP X;refine C1 (Bn Ad rfl rfl rfl rfl rfl rfl) ?_;refine eK ?_;refine cC rfl (VH _ _ _ _ _ Ae AY) ?_;rintro _ ck ⟨⟨⟩,⟨N,M⟩⟩;have cl:=M.size;have h5:=h5.fr M Ab;clear hP;have X:=X.fr M Ab;refine C1 (xB [_,_,_,_]) (eS [_,_,_,_] h5 ?_);intro cm aa ab cn;revert N X;refine eF ab ?_;intro N X;refine eK ?_;refine xC aa ?_;exact A4 CZ Ae X
 cases ht:DA c.ts σ [116,111,112]
 case true=>
  rw [show BY c.ts c.n (k+1) σ=(.mk 4 0 (BJ c.ts c.n (AW c.ts c.n (AA σ) [40])).1 [],AW c.ts c.n (BJ c.ts c.n (AW c.ts c.n (AA σ) [40])).2 [41]) from by rw [BY];simp [h2,ht]];refine Ac func163 ntmps163 rfl rfl ?_;refine cS (eA [_,_,_,_] ?_);intro co cp g ac cq cr;revert hP X;refine eE ac ?_;intro hP X;refine eK ?_;refine cC rfl (BE _ _ _ Ae) ?_;rintro _ ak ⟨⟨⟩,ad⟩;revert g hP X;refine eY ad ?_;intro al g hP X;refine C1 (Bn Ad rfl rfl rfl rfl rfl rfl) ?_;refine eK ?_;refine cC rfl (DD _ _ _ _ Ae AY Ae) ?_;rintro _ am ⟨⟨⟩,⟨an,l⟩⟩;have ao:=l.size;have g:=g.fr l Ab;clear hP;have X:=X.fr l Ab;refine eK ?_;refine eQ rfl (KT _ _ _ _ Ae) ?_;rintro _ ap ⟨aq,⟨ar,⟨⟨⟩,⟨q,⟨r,s⟩⟩⟩⟩⟩;have au:=s.size;revert g X;refine eF s ?_;intro g X;refine eS [_,_,_,_] g ?_;intro av O Q aw;revert q r X;refine eF Q ?_;intro q r X;refine eK ?_;refine xC O ?_;exact A4 CZ Ae X
 cases hs:DA c.ts σ [115,105,122,101]
 case true=>
  rw [show BY c.ts c.n (k+1) σ=(.mk 5 0 (BJ c.ts c.n (AW c.ts c.n (AA σ) [40])).1 [],AW c.ts c.n (BJ c.ts c.n (AW c.ts c.n (AA σ) [40])).2 [41]) from by rw [BY];simp [h2,ht,hs]];refine Ac func163 ntmps163 rfl rfl ?_;refine cS (eA [_,_,_,_] ?_);intro cs ct f ae cu cv;revert hP X;refine eE ae ?_;intro hP X;refine eK ?_;refine cC rfl (BE _ _ _ Ae) ?_;rintro _ ax ⟨⟨⟩,af⟩;revert f hP X;refine eY af ?_;intro ay f hP X;refine C1 (Bn Ad rfl rfl rfl rfl rfl rfl) ?_;refine eK ?_;refine cC rfl (C2 _ _ _ _ Ae AY Ae) ?_;rintro _ az ⟨⟨⟩,⟨a0,m⟩⟩;have a1:=m.size;have f:=f.fr m Ab;clear hP;have X:=X.fr m Ab;refine eK ?_;refine cC rfl (DD _ _ _ _ Ae AY Ae) ?_;rintro _ a2 ⟨⟨⟩,⟨a3,t⟩⟩;have a4:=t.size;revert f X;refine eF t ?_;intro f X;refine eK ?_;refine eQ rfl (KT _ _ _ _ Ae) ?_;rintro _ a5 ⟨a6,⟨a7,⟨⟨⟩,⟨u,⟨v,x⟩⟩⟩⟩⟩;have a8:=x.size;revert f X;refine eF x ?_;intro f X;refine eS [_,_,_,_] f ?_;intro a9 R S ba;revert u v X;refine eF S ?_;intro u v X;refine eK ?_;refine xC R ?_;exact A4 CZ Ae X
 cases hp:DA c.ts σ [40]
 case true=>
  rw [show BY c.ts c.n (k+1) σ=((Cn c.ts c.n k 1 (AA σ)).1,AW c.ts c.n (Cn c.ts c.n k 1 (AA σ)).2 [41]) from by rw [BY];simp [h2,ht,hs,hp]];have hm:=OE hP.at_ hp AY;have hf:4*mS c.ts (AA σ)+4<=k:=by omega
  refine Ac func163 ntmps163 rfl rfl ?_;refine cS (eA [_,_,_,_] ?_);intro cw cx a ag cy cz;revert hP X;refine eE ag ?_;intro hP X;refine eK ?_;refine cC rfl (BE _ _ _ Ae) ?_;rintro _ bb ⟨⟨⟩,ah⟩;revert a hP X;refine eY ah ?_;intro bc a hP X;refine C1 (Bn Ad rfl rfl rfl rfl rfl rfl) ?_;refine eK ?_;refine cC rfl (C2 _ _ _ _ Ae AY Ae) ?_;rintro _ bd ⟨⟨⟩,⟨be,o⟩⟩;have bf:=o.size;have a:=a.fr o Ab;clear hP;have X:=X.fr o Ab;refine eK ?_;refine cC rfl (C2 _ _ _ _ Ae AY Ae) ?_;rintro _ bg ⟨⟨⟩,⟨bh,y⟩⟩;have bi:=y.size;revert a X;refine eF y ?_;intro a X;refine eK ?_;refine cC rfl (DD _ _ _ _ Ae AY Ae) ?_;rintro _ bj ⟨⟨⟩,⟨bk,z⟩⟩;have bl:=z.size;revert a X;refine eF z ?_;intro a X;refine eK ?_;refine eQ rfl ((IH k (cH _)).expr _ _ _ Ae hf AY AY) ?_;rintro _ bm ⟨bn,⟨bo,⟨⟨⟩,⟨e,⟨A,C⟩⟩⟩⟩⟩;have bp:=C.size;revert a X;refine eF C ?_;intro a X;refine xA [_,_,_,_] ?_;intro bq br T;refine eI [_,_,_,_] T ?_;intro bs i U bt bu;revert e A a X;refine eE U ?_;intro e A a X;refine eK ?_;refine cC rfl (CT _ _ _ _ Ae AY) ?_;rintro _ bv ⟨⟨⟩,⟨D,E⟩⟩;revert i e;refine eZ E ?_;intro bw i e;revert a X;refine eF E ?_;intro a X;refine eK ?_;refine eS [_,_,_,_] a ?_;intro bx V W bz;revert D i e X;refine eF W ?_;intro D i e X;refine eK ?_;refine xC V ?_
  exact A4 (eX Ae (fun b h=>by omega)) Ae X
 . rw [show BY c.ts c.n (k+1) σ=CB c.ts c.n k σ from by rw [BY];simp [h2,ht,hs,hp]];have hf:4*mS c.ts σ+1<=k:=by omega
   refine Ac func163 ntmps163 rfl rfl ?_;refine cS (eA [_,_,_,_] ?_);intro c0 c1 d ai c2 c3;revert hP X;refine eE ai ?_;intro hP X;refine eK ?_;refine cC rfl (BE _ _ _ Ae) ?_;rintro _ b0 ⟨⟨⟩,aj⟩;revert d hP X;refine eY aj ?_;intro b2 d hP X;refine C1 (Bn Ad rfl rfl rfl rfl rfl rfl) ?_;refine eK ?_;refine cC rfl (C2 _ _ _ _ Ae AY Ae) ?_;rintro _ b3 ⟨⟨⟩,⟨b4,p⟩⟩;have b5:=p.size;have d:=d.fr p Ab;clear hP;have X:=X.fr p Ab;refine eK ?_;refine cC rfl (C2 _ _ _ _ Ae AY Ae) ?_;rintro _ b6 ⟨⟨⟩,⟨b7,F⟩⟩;have b8:=F.size;revert d X;refine eF F ?_;intro d X;refine eK ?_;refine cC rfl (C2 _ _ _ _ Ae AY Ae) ?_;rintro _ b9 ⟨⟨⟩,⟨ca,G⟩⟩;have cb:=G.size;revert d X;refine eF G ?_;intro d X;refine eK ?_;refine eQ rfl ((IH k (cH _)).place _ _ Ae hf) ?_;rintro _ cc ⟨cd,⟨ce,⟨⟨⟩,⟨I,⟨J,L⟩⟩⟩⟩⟩;have cf:=L.size;revert d X;refine eF L ?_;intro d X;refine eS [_,_,_,_] d ?_;intro cg Y Z ch;revert I J X;refine eF Z ?_;intro I J X;refine eK ?_;refine xC Y ?_;exact A4 (eX Ae (fun b h=>by omega)) Ae X
def XG (c:PC) (k:Nat) (IH : ∀j,j<=k->ExprsC c j):VI c (k+1):=by
 intro σ w hP hk;have X:=fC (· = c.pb) w;have hpb:=hP.pbB;have hB:=hP.B;cases h1:DA c.ts σ [45]
 case true=>
  rw [show BK c.ts c.n (k+1) σ=(.mk 6 0 [] [(BK c.ts c.n k (AA σ)).1],(BK c.ts c.n k (AA σ)).2) from by rw [BK];simp [h1]];have hm:=OE hP.at_ h1 AY;have hf:4*mS c.ts (AA σ)+3<=k:=by omega
  refine Ac func144 ntmps144 rfl rfl ?_;refine cS (eA [_,_,_,_] ?_);intro b1 w2 h5 x6 p7 z8;revert hP X;refine eE x6 ?_;intro hP X;refine eK ?_;refine cC rfl (DD _ _ _ _ Ae AY Ae) ?_;rintro _ ar ⟨⟨⟩,⟨h9,y⟩⟩;have au:=y.size;have h5:=h5.fr y Ab;clear hP;have X:=X.fr y Ab;refine eK ?_;refine eQ rfl ((IH k (cH _)).unary _ _ Ae hf) ?_;rintro _ av ⟨aw,⟨ax,⟨⟨⟩,⟨m,⟨o,z⟩⟩⟩⟩⟩;have ay:=z.size;revert h5 X;refine eF z ?_;intro h5 X;refine AC (xS [_,_,_,_]) rfl ?_ aFh;rintro _ az ⟨a0,rfl,p,a1⟩;have A:=p.blk;have I:=p.ext;have a2:=p.pos;have a3:=p.size;revert m o h5 X;refine eE I ?_;intro m o h5 X;refine C1 (xB [_,_,_,_]) (eS [_,_,_,_] h5 ?_);intro a4 J L a5;revert A m o X;refine eF L ?_;intro A m o X;refine eK ?_;refine xC J ?_;exact A4 (Kr Ae Ab Ae (fun b h=>by omega)) Ae X
 cases h2:DA c.ts σ [33]
 case true=>
  rw [show BK c.ts c.n (k+1) σ=(.mk 7 0 [] [(BK c.ts c.n k (AA σ)).1],(BK c.ts c.n k (AA σ)).2) from by rw [BK];simp [h1,h2]];have hm:=OE hP.at_ h2 AY;have hf:4*mS c.ts (AA σ)+3<=k:=by omega
  refine Ac func144 ntmps144 rfl rfl ?_;refine cS (eA [_,_,_,_] ?_);intro a6 a7 a M a8 a9;revert hP X;refine eE M ?_;intro hP X;refine eK ?_;refine cC rfl (C2 _ _ _ _ Ae AY Ae) ?_;rintro _ O ⟨⟨⟩,⟨ba,i⟩⟩;have Q:=i.size;have a:=a.fr i Ab;clear hP;have X:=X.fr i Ab;refine eK ?_;refine cC rfl (DD _ _ _ _ Ae AY Ae) ?_;rintro _ R ⟨⟨⟩,⟨S,q⟩⟩;have T:=q.size;revert a X;refine eF q ?_;intro a X;refine eK ?_;refine eQ rfl ((IH k (cH _)).unary _ _ Ae hf) ?_;rintro _ U ⟨V,⟨W,⟨⟨⟩,⟨e,⟨f,r⟩⟩⟩⟩⟩;have Y:=r.size;revert a X;refine eF r ?_;intro a X;refine AC (xS [_,_,_,_]) rfl ?_ aFh;rintro _ Z ⟨aa,rfl,g,ab⟩;have s:=g.blk;have C:=g.ext;have ac:=g.pos;have ad:=g.size;revert e f a X;refine eE C ?_;intro e f a X;refine C1 (xB [_,_,_,_]) (eS [_,_,_,_] a ?_);intro ae D E af;revert s e f X;refine eF E ?_;intro s e f X;refine eK ?_;refine xC D ?_;exact A4 (Kr Ae Ab Ae (fun b h=>by omega)) Ae X
 . rw [show BK c.ts c.n (k+1) σ=BY c.ts c.n k σ from by rw [BK];simp [h1,h2]];have hf:4*mS c.ts σ+2<=k:=by omega
   refine Ac func144 ntmps144 rfl rfl ?_;refine cS (eA [_,_,_,_] ?_);intro bb bc d N bd be;revert hP X;refine eE N ?_;intro hP X;refine eK ?_;refine cC rfl (C2 _ _ _ _ Ae AY Ae) ?_;rintro _ ag ⟨⟨⟩,⟨bf,l⟩⟩;have ah:=l.size;have d:=d.fr l Ab;clear hP;have X:=X.fr l Ab;refine eK ?_;refine cC rfl (C2 _ _ _ _ Ae AY Ae) ?_;rintro _ ai ⟨⟨⟩,⟨aj,t⟩⟩;have ak:=t.size;revert d X;refine eF t ?_;intro d X;refine eK ?_;refine eQ rfl ((IH k (cH _)).primary _ _ Ae hf) ?_;rintro _ al ⟨am,⟨an,⟨⟨⟩,⟨u,⟨v,x⟩⟩⟩⟩⟩;have ao:=x.size;revert d X;refine eF x ?_;intro d X;refine eS [_,_,_,_] d ?_;intro ap F G aq;revert u v X;refine eF G ?_;intro u v X;refine eK ?_;refine xC F ?_;exact A4 (eX Ae (fun b h=>by omega)) Ae X
def VK (t:lB):Jw binMap t=(Nt t).map fun k=>.int .u8 k:=by
 unfold binMap Nt;generalize F:[(8:Int),9,10,11,12,13,14,15,16,17,18,19,20,21,22,23]=L;clear F
 induction L with
 | nil=>rfl
 | cons k r G=>
  simp only [List.map_cons,Jw,List.find?_cons];by_cases h:GZ k=t
  . simp [h]
  . rw [As (fun e=>h e.symm),G];simp [h]
def OF (k:Int) (h:8<=k) (F:k<=23):1<=EJ k/\EJ k<=8:=by
 have:k=8\/k=9\/k=10\/k=11\/k=12\/k=13\/k=14\/k=15\/k=16\/k=17\/k=18\/k=19\/k=20\/k=21\/k=22\/k=23:=by omega
 rcases this with rfl|rfl|rfl|rfl|rfl|rfl|rfl|rfl|rfl|rfl|rfl|rfl|rfl|rfl|rfl|rfl<;>decide
def Zi (c:PC) (k:Nat) (IH : ∀j,j<=k->ExprsC c j):YR c (k+1):=by
 intro lv σ w L hk b9 ca;have X:=fC (· = c.pb) w;have cb:=L.pbB;have hB:=L.B;have bk:=L.len;rw [show Cn c.ts c.n (k+1) lv σ=Dt c.ts c.n k lv (BK c.ts c.n k σ).1 (BK c.ts c.n k σ).2 from by rw [Cn]];have hu:=((Id (ts:=c.ts) (n:=c.n) k).2.2.1 σ L.at_).1;have hf:4*mS c.ts σ+3<=k:=by omega
 have ao:4*mS c.ts (BK c.ts c.n k σ).2+1<=k:=by have:=Ed hu;omega
 refine Ac func117 ntmps117 rfl rfl ?_;refine cS (eA [_,_,_,_] ?_);intro b1 w2 F x6 p7 z8;revert L X;refine eE x6 ?_;intro L X;refine eK ?_;refine eQ rfl ((IH k (cH _)).unary _ _ Ae hf) ?_;rintro _ cc ⟨a9,⟨a3,⟨⟨⟩,⟨ae,⟨al,am⟩⟩⟩⟩⟩;have cd:=am.size;have F:=F.fr am Ab;clear L;have X:=X.fr am Ab;refine xA [_,_,_,_] ?_;intro an ce a4;refine eI [_,_,_,_] a4 ?_;intro a5 ap a6 cf cg;revert ae al F X;refine eE a6 ?_;intro ae al F X;refine cT (Av ?_);refine A1 (ι:=Nat×Nd×oA×Nat×PS) (fun _=>[(0,.pointer (some ⟨c.pb,0,none⟩)),(1,.int .i64 lv),(4,.pointer (some ⟨b1,0,none⟩)),(5,.pointer (some ⟨an,0,none⟩))])
  (fun x w'=>PP c x.2.2.2.2 w'/\Blk w' an (x.2.1.cells x.2.2.1 x.2.2.2.1)/\x.2.1.sits (fun b=>w.heap.size<=b/\b≠b1/\b≠an) w' x.2.2.1/\Blk w' b1 [.int .u8 0,.int .i64 0,.string ⟨#[]⟩,.slice none 0 0]/\Fr (· = c.pb) w w'/\a5.heap.size<=w'.heap.size /\
   Dt c.ts c.n k lv (BK c.ts c.n k σ).1 (BK c.ts c.n k σ).2=Dt c.ts c.n x.1 lv x.2.1 x.2.2.2.2/\4*mS c.ts x.2.2.2.2+1<=x.1/\x.1<=k) (fun x=>x.1) (k,(BK c.ts c.n k σ).1,a9,a3,(BK c.ts c.n k σ).2) sB
  ⟨al,ap,ae.wide (fun b h=>⟨Ab,Ab,Ab⟩),F,X,cH _,rfl,ao,cH _⟩ ?_
 rintro ⟨j,x,xa,xc,σ'⟩ w1 ⟨L,F,G,M,X,hz,he,a7,a8⟩;simp only at L F G he a7 a8;rw [he];clear he hu hf ao ap ae;obtain ⟨j,rfl⟩ : ∃i,j=i+1:=⟨j-1,Ab⟩;have hg:=VK (AJ c.ts σ').text;cases hb:Nt (AJ c.ts σ').text with
 | none=>
  rw [show Dt c.ts c.n (j+1) lv x σ'=(x,σ') from by rw [Dt];simp [hb]];rw [hb] at hg;simp only [Option.map_none] at hg;refine eK ?_;refine Ar (fun V=>Ext w1 V) 12 (.pure 0 (.pure 1 (.pure 2 (.pure 3 (.pure 4 (.fork 5 (.pure 6 (.pure 7 (.pure 8 (.pure 9 (.pure 10 (.pure 11 .tail)))))) .none)))))) mixed A9 (Aa (Al (Aa (Al Ah)))) ?_;intro ba aq _;have Y:(fun V=>Ext w1 V) ba:=aq;simp only at Y;have N:=L;have af:=F;have ag:=G;have ah:=M;revert L F G M X;refine eY aq ?_;intro ch L F G M X;refine ⟨Y,?_⟩;refine eT ?_;refine Tq rfl (An Ad rfl rfl rfl (fun V hz=>fD (fH (PP.blk N) hz) rfl)) (Tq rfl Mv ?_);refine tC rfl rfl (BE _ _ _ Ae) ?_;rintro _ ci ⟨⟨⟩,bb⟩;revert Y L F G M X;refine eY bb ?_;intro cj Y L F G M X;refine ⟨Y,?_⟩;refine Tq rfl (Bn Ad rfl rfl rfl rfl rfl rfl) (Tq rfl (M1 Ad rfl rfl rfl rfl rfl (fun V hz=>MapIs.ext (PP.map N) hz) Ae) (Tq rfl Mv (Tq rfl Px (Tq rfl Px (Tq rfl Pa ?_)))));refine At rfl ?_;refine eK ?_;refine eS [_,_,_,_] M ?_;intro ck ar au bl;revert L F G X;refine eF au ?_;intro L F G X;refine eK ?_;refine xC ar ?_;exact A4 (eX G (fun b h=>h.1)) Ae X
 | some op=>
  rw [hb] at hg;simp only [Option.map_some] at hg;obtain ⟨bc,o1,o2,-⟩:=LY hb;obtain ⟨bd,ad⟩:=DO L.at_ (bW bc);have hm:=Ff (ts:=c.ts) (σ:=σ') ⟨bd,ad⟩;have cl:=OF op o1 o2;by_cases hl:EJ op<lv
  . rw [show Dt c.ts c.n (j+1) lv x σ'=(x,σ') from by rw [Dt];simp [hb,hl]]
    focus
     refine eK ?_;refine Ar (fun V=>Ext w1 V) 12 (.pure 0 (.pure 1 (.pure 2 (.pure 3 (.pure 4 (.fork 5 (.pure 6 (.pure 7 (.pure 8 (.pure 9 (.pure 10 (.pure 11 .tail)))))) .none)))))) mixed A9 (Aa (Al (Aa (Al Ah)))) ?_;intro be av _;have Z:(fun V=>Ext w1 V) be:=av;simp only at Z;have N:=L;have af:=F;have ag:=G;have ah:=M;revert L F G M X;refine eY av ?_;intro cm L F G M X;refine ⟨Z,?_⟩;refine eT ?_;refine Tq rfl (An Ad rfl rfl rfl (fun V hz=>fD (fH (PP.blk N) hz) rfl)) (Tq rfl Mv ?_);refine tC rfl rfl (BE _ _ _ Ae) ?_;rintro _ cn ⟨⟨⟩,bf⟩;revert Z L F G M X;refine eY bf ?_;intro co Z L F G M X;refine ⟨Z,?_⟩;refine Tq rfl (Bn Ad rfl rfl rfl rfl rfl rfl) (Tq rfl (IT Ad rfl rfl rfl rfl rfl (fun V hz=>MapIs.ext (PP.map N) hz) Ae) (Tq rfl Mv (Tq rfl Px (Tq rfl Px (Tq rfl Pa ?_)))));refine At rfl ?_;refine eK ?_;refine cC rfl (Gv _ _ Ab Ab) ?_;rintro _ cp ⟨⟨⟩,rfl⟩;refine eK ?_;refine eS [_,_,_,_] M ?_;intro cq aw ax bm;revert L F G X;refine eF ax ?_;intro L F G X;refine eK ?_;refine xC aw ?_;rotate_left
    exact A4 (eX G (fun b h=>h.1)) Ae X
  . rw [show Dt c.ts c.n (j+1) lv x σ'=Dt c.ts c.n j lv (.mk op 0 [] [x,(Cn c.ts c.n j (EJ op+1) (AA σ')).1]) (Cn c.ts c.n j (EJ op+1) (AA σ')).2 from by rw [Dt];simp [hb,hl]];have bg:4*mS c.ts (AA σ')+4<=j:=by omega
    have bh:=((Id (ts:=c.ts) (n:=c.n) j).1 (EJ op+1) (AA σ') ad).1;have cr:=Ed bh;refine eK ?_;refine Ar (fun V=>Ext w1 V) 12 (.pure 0 (.pure 1 (.pure 2 (.pure 3 (.pure 4 (.fork 5 (.pure 6 (.pure 7 (.pure 8 (.pure 9 (.pure 10 (.pure 11 .tail)))))) .none)))))) mixed A9 (Aa (Al (Aa (Al Ah)))) ?_;intro bi ay _;have aa:(fun V=>Ext w1 V) bi:=ay;simp only at aa;have N:=L;have af:=F;have ag:=G;have ah:=M;revert L F G M X;refine eY ay ?_;intro ct L F G M X;refine ⟨aa,?_⟩;refine eT ?_;refine Tq rfl (An Ad rfl rfl rfl (fun V hz=>fD (fH (PP.blk N) hz) rfl)) (Tq rfl Mv ?_);refine tC rfl rfl (BE _ _ _ Ae) ?_;rintro _ cu ⟨⟨⟩,bj⟩;revert aa L F G M X;refine eY bj ?_;intro cv aa L F G M X;refine ⟨aa,?_⟩;refine Tq rfl (Bn Ad rfl rfl rfl rfl rfl rfl) (Tq rfl (IT Ad rfl rfl rfl rfl rfl (fun V hz=>MapIs.ext (PP.map N) hz) Ae) (Tq rfl Mv (Tq rfl Px (Tq rfl Px (Tq rfl Pa ?_)))));refine At rfl ?_;refine eK ?_;refine cC rfl (Gv _ _ Ab Ab) ?_;rintro _ cw ⟨⟨⟩,rfl⟩;refine Bh rfl rfl rfl (rfl) (C1 Mv (Bh rfl rfl rfl (rfl) (C1 V3 (C1 (B0 rfl rfl rfl) (cT (U4 (Am (Ag (cS (C1 Mv (C1 Pn ?_)))))))))));refine C1 Pf (C1 (Pl (PP.blk L)) ?_);refine eK ?_;refine B9 Ad rfl rfl rfl rfl Ae ad ?_;rintro cx bn ai;have bo:=ai.size;clear L;revert F G M X;refine eF ai ?_;intro F G M X;refine eK ?_;refine cC rfl (Gv _ _ Ab Ab) ?_;rintro _ bp ⟨⟨⟩,rfl⟩;refine C1 V7 (eQ rfl ((IH j Ab).expr _ _ _ Ae bg Ab Ab) ?_);rintro _ bq ⟨br,⟨bs,⟨⟨⟩,⟨O,⟨U,aj⟩⟩⟩⟩⟩;have bt:=aj.size;revert F G M X;refine eF aj ?_;intro F G M X;refine xA [_,_,_,_] ?_;intro bu bv az;refine eI [_,_,_,_] az ?_;intro bw ab a0 bx bz;revert O U F G M X;refine eE a0 ?_;intro O U F G M X;refine eK ?_;refine AC (xS [_,_,_,_,_,_,_,_]) rfl ?_ aFh;rintro _ b0 ⟨b2,rfl,ac,b3⟩;have ak:=ac.blk;have a1:=ac.ext;have b4:=ac.pos;have b5:=ac.size;revert ab O U F G M X;refine eE a1 ?_;intro ab O U F G M X;refine C1 (xB [_,_,_,_]) (eS [_,_,_,_] F ?_);intro b6 b7 a2 b8;revert ak ab O U G M X;refine eF a2 ?_;intro ak ab O U G M X;refine Ak (Af ?_)
    refine AI (j,.mk op 0 [] [x,(Cn c.ts c.n j (EJ op+1) (AA σ')).1],some ⟨_,0,none⟩,2,(Cn c.ts c.n j (EJ op+1) (AA σ')).2) sB ⟨Ae,Ae,Ks Ae ⟨Ab,Ab,Ab⟩ G (fun b h=>h) Ae (fun b h=>⟨Ab,Ab,Ab⟩),Ae,X,Ab,rfl,by simp only;omega,by simp only;omega⟩ AR
def Ej (c:PC) (k:Nat):ExprsC c k:=by
 induction k using Nat.strongRecOn with
 | _ k G=>
  cases k with
  | zero=>exact ⟨fun _ _ _ _ h=>by omega,fun _ _ _ h=>by omega,fun _ _ _ h=>by omega,fun _ _ _ h=>by omega⟩
  | succ k=>
   have F : ∀j,j<=k->ExprsC c j:=fun j L=>G j Ab
   exact ⟨Zi c k F,XG c k F,Ui c k F,XF c k F⟩
def If (s:lB):Bool:=match s with
 | []=>false
 | c::_=>Do c
section
variable (ts:List Tok) (n:Int)
end
section
variable {ts:List Tok} {n:Int}
end
section
variable {ts:List Tok} {n:Int}
end
section
variable (ts:List Tok) (n:Int)
end
section
variable {ts:List Tok} {n:Int}
def L0 {σ:PS} (h:σ.at_<=ts.length):Le ts σ (ED ts n σ).2:=BW h
def OG (k:Nat) : ∀acc σ,σ.at_<=ts.length->Le ts σ (Ea ts n k acc σ).2:=by
 induction k with
 | zero=>intro acc σ h;rw [Ea];exact Le.refl h
 | succ k L=>
  intro acc σ h;rw [Ea];split
  . rename_i M;have F:=Bg (Ct h M AY);split
    . have G:=F.trans (JO (off:=(AJ ts (AA σ)).pos) (e:=5) F.wf);exact (G.trans (L0 G.wf)).trans (L _ _ (L0 G.wf).wf)
    . exact (F.trans (L0 F.wf)).trans (L _ _ (L0 F.wf).wf)
  . exact Le.refl h
end
section
variable {ts:List Tok} {n:Int}
abbrev In (ts:List Tok) (σ:PS):Prop:=σ.err=0/\σ.at_<ts.length
def FD {k:Nat} {lv:Int} {σ:PS} (h:σ.at_<=ts.length):Le ts σ (Cn ts n k lv σ).2:=((Id k).1 lv σ h).1
def F0 {k:Nat} {σ:PS} (h:σ.at_<=ts.length):Le ts σ (CB ts n k σ).2:=((Id k).2.2.2.2 σ h).1
def Qa {k:Nat} {kind:Int} {σ:PS} (L:In ts σ):Le ts σ (H4 ts n k kind σ).2:=by
 unfold H4;have h:=Bg L;have F:=h.trans (F0 (n:=n) (k:=k) h.wf);have G:=F.trans (AX (n:=n) (t:=[44]) F.wf AY);exact G.trans (BW G.wf)
def Ll {k:Nat} {kind:Int} {σ:PS} (F:In ts σ):Le ts σ (IW ts n k kind σ).2:=by
 unfold IW;have h:=Bg F;exact h.trans (F0 (n:=n) (k:=k) h.wf)
def SQ {k:Nat} {kind:Int} {σ:PS} (M:In ts σ):Le ts σ (JE ts n k kind σ).2:=by
 unfold JE;have G:=Bg M;have L:=G.trans (BW (n:=n) G.wf);have h:=L.trans (AX (n:=n) (t:=[40]) L.wf AY);simp only;split
 . rename_i N;exact h.trans (Bg (Ct h.wf N AY))
 . have F:=h.trans (L0 (n:=n) h.wf);exact (F.trans (OG (n:=n) k _ _ F.wf)).trans (AX (OG (n:=n) k _ _ F.wf).wf AY)
def RS {t:lB} (h : ¬Fz t=0):t≠[]:=by rintro rfl;exact h AY
def Uj {k:Nat} {σ:PS} (h:σ.at_<=ts.length):Le ts σ (Gj ts n k σ).2:=by
 unfold Gj;have F:=F0 (n:=n) (k:=k) h;simp only;split
 . rename_i L;have G:=F.trans (Bg (Ct F.wf L AY));exact G.trans (F0 G.wf)
 . split
   . exact F.trans (Ic F.wf)
   . rename_i L;have G:=F.trans (Bg (DO F.wf (bW (RS L))));exact G.trans (FD G.wf)
def Fk (k:Nat):(∀ σ,σ.at_<=ts.length->Le ts σ (CH ts n k σ).2)/\(∀kind M G σ,In ts σ->M≠[]->G≠[]->Le ts σ (CV ts n k kind M G σ).2)/\(∀ σ,In ts σ->Le ts σ (FR ts n k σ).2) /\
 (∀ σ,σ.at_<=ts.length->Le ts σ (EK ts n k σ).2)/\(∀acc σ,σ.at_<=ts.length->Le ts σ (DK ts n k acc σ).2):=by
 induction k with
 | zero=>
  refine ⟨fun σ h=>?_,fun kind M G σ h _ _=>?_,fun σ h=>?_,fun σ h=>?_,fun acc σ h=>?_⟩
  . rw [CH];exact Le.refl h
  . rw [CV];exact Le.refl (Nat.le_of_lt h.2)
  . rw [FR];exact Le.refl (Nat.le_of_lt h.2)
  . rw [EK];exact Le.refl h
  . rw [DK];exact Le.refl h
 | succ k ih=>
  obtain ⟨iS,iB,iL,iK,iT⟩:=ih;refine ⟨fun σ h=>?_,fun kind M G σ hn V U=>?_,fun σ hn=>?_,fun σ h=>?_,fun acc σ h=>?_⟩
  . rw [CH];have F : ∀t:lB,t≠[]->(AJ ts σ).text=t->In ts σ:=fun t ht e=>DO h (bW (by rw [e];exact ht))
    by_cases c:(AJ ts σ).text=[112,117,115,104]
    . rw [AG c];exact Qa (F _ AY c)
    rw [As c];clear c;by_cases c:(AJ ts σ).text=[112,111,112]
    . rw [AG c];exact Qa (F _ AY c)
    rw [As c];clear c;by_cases c:(AJ ts σ).text=[114,101,97,100]
    . rw [AG c];exact Ll (F _ AY c)
    rw [As c];clear c;by_cases c:(AJ ts σ).text=[117,110,114,101,97,100]
    . rw [AG c];exact Ll (F _ AY c)
    rw [As c];clear c;by_cases c:(AJ ts σ).text=[119,114,105,116,101]
    . rw [AG c];exact Ll (F _ AY c)
    rw [As c];clear c;by_cases c:(AJ ts σ).text=[117,110,119,114,105,116,101]
    . rw [AG c];exact Ll (F _ AY c)
    rw [As c];clear c;by_cases c:(AJ ts σ).text=[99,97,108,108]
    . rw [AG c];exact SQ (F _ AY c)
    rw [As c];clear c;by_cases c:(AJ ts σ).text=[117,110,99,97,108,108]
    . rw [AG c];exact SQ (F _ AY c)
    rw [As c];clear c;by_cases c:(AJ ts σ).text=[105,102]
    . rw [AG c];exact iB _ _ _ _ (F _ AY c) AY AY
    rw [As c];clear c;by_cases c:(AJ ts σ).text=[102,114,111,109]
    . rw [AG c];exact iB _ _ _ _ (F _ AY c) AY AY
    rw [As c];clear c;by_cases c:(AJ ts σ).text=[108,111,99,97,108]
    . rw [AG c];exact iL _ (F _ AY c)
    rw [As c];clear c;exact Uj h
  . rw [CV];have L:=Bg hn;have N:=L.trans (FD (n:=n) (k:=k) (lv:=1) L.wf);have O:=N.trans (iK _ N.wf);have X:=O.trans (AX (n:=n) (t:=M) O.wf V);have Y:=X.trans (iK _ X.wf);have Z:=Y.trans (AX (n:=n) (t:=G) Y.wf U);exact Z.trans (FD Z.wf)
  . rw [FR];have L:=Bg hn;split
    . rename_i hh;have N:=L.trans (Bg (Ct L.wf hh AY));have O:=N.trans (BW (n:=n) N.wf);exact O.trans (iK _ O.wf)
    . have N:=L.trans (BW (n:=n) L.wf);have O:=N.trans (AX (n:=n) (t:=[61]) N.wf AY);have X:=O.trans (FD (n:=n) (k:=k) (lv:=1) O.wf);have Y:=X.trans (iK _ X.wf);have Z:=Y.trans (AX (n:=n) (t:=[100,101,108,111,99,97,108]) Y.wf AY);exact Z.trans (FD Z.wf)
  . rw [EK];have L:=AX (n:=n) (t:=[123]) h AY;exact L.trans (iT [] _ L.wf)
  . rw [DK];split
    . exact Le.refl h
    . split
      . rename_i hh;exact Bg (Ct h hh AY)
      . have L:=iS σ h;have N:=L.trans (AX (n:=n) (t:=[59]) L.wf AY);exact N.trans (iT _ _ N.wf)
end
def KV (c:PC) (k:Nat) (kind:Int) (σ:PS) (w:wD) (Z:PP c σ w) (hi:In c.ts σ) (hk:4*mS c.ts σ<=k) :
 Calls prog 76 #[.pointer (some ⟨c.pb,0,none⟩),.int .u8 kind] w (TreeR c w (H4 c.ts c.n k kind σ)):=by
 have X:=fC (· = c.pb) w;have a0:=Z.pbB;have hB:=Z.B;have ay:=Z.len;have h2:=hi.2;have hm:=Ff hi;have hf:4*mS c.ts (AA σ)+1<=k:=by omega
 refine Ac func76 ntmps76 rfl rfl ?_
 focus
  refine cS (eA [_,_,_,_] ?_);intro b1 w2 M x6 p7 z8;revert Z X;refine eE x6 ?_;intro Z X;refine cN (C1 Mv (C1 Pn (C1 Pf (C1 (Pl (PP.blk Z)) ?_))));refine eK ?_;refine B9 Ad rfl rfl rfl rfl Ae h2 ?_;rintro w9 a1 aa;have a2:=aa.size;have M:=M.fr aa Ab;clear Z;have X:=X.fr aa Ab;refine eK ?_;refine eQ rfl ((Ej c k).place _ _ Ae hf) ?_;rintro _ a3 ⟨a4,⟨a5,⟨⟨⟩,⟨G,⟨ae,af⟩⟩⟩⟩⟩;have a6:=af.size;revert M X;refine eF af ?_;intro M X;refine xA [_,_,_,_] ?_;intro a7 a8 al;refine eI [_,_,_,_] al ?_;intro a9 L am ba bb;revert G ae M X;refine eE am ?_;intro G ae M X;refine eK ?_;refine cC rfl (CT _ _ _ _ Ae AY) ?_;rintro _ ag ⟨⟨⟩,⟨N,ah⟩⟩;revert L G;refine eZ ah ?_;intro bc L G;revert M X;refine eF ah ?_;intro M X;refine eK ?_;refine Ar (fun wz=>Fr (· = c.pb) ag wz) 5 (.pure 0 (.pure 1 (.pure 3 (.fork 2 (.fork 4 .tail .none) (.fork 4 (.fork 2 .tail .none) .none))))) mixed A9 (Aa Ah) ?_;intro an ab _;have F:(fun wz=>Fr (· = c.pb) ag wz) an:=fE ab;simp only at F;have ao:=N;have ac:=L;have ap:=G;have az:=M;have bd:=ab.size;revert N L G M X;refine eE ab ?_;intro N L G M X;refine ⟨F,?_⟩;refine Tq rfl Mv (Tq rfl Mv (Tq rfl (xL [_,_,_,_] (fun wz hz=>(fB ac hz Ab))) ?_));refine Ax rfl (AU A9 rfl (G9 _ _ _ Ae) (fun _ _ h=>⟨_,h.1⟩)) rfl ?_ aFh ?kr;rintro _ be ⟨⟨⟩,⟨O,ad⟩⟩;have bf:=ad.size;have F:=F.fr ad Ab;revert L G M X;refine eF ad ?_;intro L G M X;refine ⟨F,?_⟩;refine Ax rfl (xS [_,_,_,_]) rfl ?_ aFh Aw;rintro _ bg ⟨bh,rfl,U,bi⟩;have ai:=U.blk;have aq:=U.ext;have bj:=U.pos;have bk:=U.size;revert O F L G M X;refine eE aq ?_;intro O F L G M X;refine ⟨F,?_⟩;refine At rfl (C1 (xB [_,_,_,_]) (eS [_,_,_,_] M ?_));intro bl ar au z51;revert ai O L G X;refine eF au ?_;intro ai O L G X;refine eK ?_;refine xC ar ?_;rotate_left;refine Ax rfl (xS [_,_,_,_]) rfl ?_ aFh Aw;rintro _ bm ⟨bn,rfl,V,bo⟩;have Y:=V.blk;have av:=V.ext;have bp:=V.pos;have bq:=V.size;revert F N L G M X
  refine eE av ?_;intro F N L G M X;refine ⟨F,?_⟩;refine tC rfl rfl (G9 _ _ _ Ae) ?_;rintro _ br ⟨⟨⟩,⟨aj,ak⟩⟩;revert Y F;refine eZ ak ?_;intro bs Y F;revert L G M X;refine eF ak ?_;intro L G M X;refine ⟨F,?_⟩;refine At rfl (C1 (xB [_,_,_,_]) (eS [_,_,_,_] M ?_));intro bt aw ax bu;revert aj Y L G X;refine eF ax ?_;intro aj Y L G X;refine eK ?_;refine xC aw ?_;rotate_left
 all_goals exact A4 (Kr Ae Ab Ae (fun b h=>by omega)) Ae X
def Hc (c:PC) (k:Nat) (kind:Int) (σ:PS) (w:wD) (M:PP c σ w) (hi:In c.ts σ) (hk:4*mS c.ts σ<=k) :
 Calls prog 77 #[.pointer (some ⟨c.pb,0,none⟩),.int .u8 kind] w (TreeR c w (IW c.ts c.n k kind σ)):=by
 have X:=fC (· = c.pb) w;have ac:=M.pbB;have hB:=M.B;have ab:=M.len;have h2:=hi.2;have hm:=Ff hi;have hf:4*mS c.ts (AA σ)+1<=k:=by omega
 refine Ac func77 ntmps77 rfl rfl ?_;refine cS (eA [_,_,_,_] ?_);intro b1 w2 N x6 p7 z8;revert M X;refine eE x6 ?_;intro M X;refine cN (C1 Mv (C1 Pn (C1 Pf (C1 (Pl (PP.blk M)) ?_))));refine eK ?_;refine B9 Ad rfl rfl rfl rfl Ae h2 ?_;rintro w9 ad O;have ae:=O.size;have N:=N.fr O Ab;clear M;have X:=X.fr O Ab;refine eK ?_;refine eQ rfl ((Ej c k).place _ _ Ae hf) ?_;rintro _ af ⟨ag,⟨ah,⟨⟨⟩,⟨F,⟨G,U⟩⟩⟩⟩⟩;have ai:=U.size;revert N X;refine eF U ?_;intro N X;refine AC (xS [_,_,_,_]) rfl ?_ aFh;rintro _ aj ⟨ak,rfl,L,al⟩;have V:=L.blk;have Y:=L.ext;have am:=L.pos;have an:=L.size;revert F G N X;refine eE Y ?_;intro F G N X;refine C1 (xB [_,_,_,_]) (eS [_,_,_,_] N ?_);intro ao Z aa ap;revert V F G X;refine eF aa ?_;intro V F G X;refine eK ?_;refine xC Z ?_;all_goals exact A4 (Kr Ae Ab Ae (fun b h=>by omega)) Ae X
def VL (c:PC) (k:Nat) (σ:PS) (w:wD) (hP:PP c σ w) (hk:4*mS c.ts σ+1<=k) :
 Calls prog 81 #[.pointer (some ⟨c.pb,0,none⟩)] w (TreeR c w (Gj c.ts c.n k σ)):=by
 have X:=fC (· = c.pb) w;have ho:=hP.pbB;have hB:=hP.B;have dl:=hP.len;have hl:=F0 (n:=c.n) (k:=k) hP.at_;have hm:=Ed hl;have b0:=hl.wf;unfold Gj;generalize hp:CB c.ts c.n k σ=p at *;have a5 : ∀ {w':wD},PP c σ w'->Calls prog 113 #[.pointer (some ⟨c.pb,0,none⟩)] w' (TreeR c w' p):=fun h=>hp▸(Ej c k).place _ _ h hk
 clear hl;by_cases a6:(AJ c.ts p.2).text=[60,61,62]
 . have hh:DA c.ts p.2 [60,61,62]=true:=by simp [DA,a6]
   simp only [hh,if_true];have ba:=Ct b0 hh AY;have c6:=Ff ba;have h2:=ba.2;have hf:4*mS c.ts (AA p.2)+1<=k:=by omega
   refine Ac func81 ntmps81 rfl rfl ?_;refine cS (eA [_,_,_,_] ?_);intro b1 w2 h5 x6 p7 z8;revert hP X;refine eE x6 ?_;intro hP X;refine eK ?_;refine eQ rfl (a5 Ae) ?_;rintro _ hq ⟨a9,⟨hr,⟨⟨⟩,⟨ad,⟨bb,bx⟩⟩⟩⟩⟩;have hs:=bx.size;have h5:=h5.fr bx Ab;clear hP;have X:=X.fr bx Ab;refine xA [_,_,_,_] ?_;intro ht hv c7;refine eI [_,_,_,_] c7 ?_;intro hw af c8 hx hy;revert ad bb h5 X;refine eE c8 ?_;intro ad bb h5 X;refine eK ?_;refine cC rfl (BE _ _ _ Ae) ?_;rintro _ hz ⟨⟨⟩,c9⟩;revert af ad bb h5 X;refine eY c9 ?_;intro h0 af ad bb h5 X;refine C1 (Bn Ad rfl rfl rfl rfl rfl rfl) (cT (Av (cS (C1 V8 (C1 Pa (cT (Fu rfl (fun N=>absurd (a6.symm.trans N) AY) (cS (C1 V8 (C1 Pa (cT ?_)))))))))));refine Fu rfl (fun N=>absurd (a6.symm.trans N) AY) (cS (C1 V8 (C1 Pa (cT (Fu rfl (fun N=>absurd (a6.symm.trans N) AY) (cS (C1 V8 (C1 Pa (cT (Fu rfl (fun N=>absurd (a6.symm.trans N) AY) (cS ?_)))))))))));refine C1 V8 (C1 Pa (cT (Ph (cS (C1 Mv (C1 Pn (C1 Pf (C1 (Pl (PP.blk bb)) ?_))))))));refine eK ?_;refine B9 Ad rfl rfl rfl rfl Ae h2 ?_;rintro h1 h3 b2;revert af ad;refine eZ b2 ?_;intro h4 af ad;revert h5 X;refine eF b2 ?_;intro h5 X;refine eK ?_;refine eQ rfl ((Ej c k).place _ _ Ae hf) ?_;rintro _ h6 ⟨h7,⟨h8,⟨⟨⟩,⟨a7,⟨a8,f35⟩⟩⟩⟩⟩;have z37:=f35.size;revert af ad h5 X;refine eF f35 ?_;intro af ad h5 X;refine xA [_,_,_,_] ?_;intro h9 ia da;refine eI [_,_,_,_] da ?_;intro ib bh db ic id;revert a7 a8 af ad h5 X;refine eE db ?_;intro a7 a8 af ad h5 X;refine eK ?_;refine AC (xS [_,_,_,_,_,_,_,_]) rfl ?_ aFh;rintro _ ie ⟨ig,rfl,bi,ih⟩;have b3:=bi.blk;have dc:=bi.ext;have ii:=bi.pos;have z53:=bi.size;revert bh a7 a8 af ad h5 X;refine eE dc ?_;intro bh a7 a8 af ad h5 X;refine C1 (xB [_,_,_,_]) (eS [_,_,_,_] h5 ?_);intro ij dd de ik;revert b3 bh a7 a8 af ad X;refine eF de ?_;intro b3 bh a7 a8 af ad X;refine eK ?_;refine xC dd ?_
   all_goals exact A4 (Ks Ae Ab Ae (fun b h=>by omega) Ae (fun b h=>by omega)) Ae X
 . have hh:DA c.ts p.2 [60,61,62]=false:=by simp [DA,a6]
   simp only [hh,dK,if_false];by_cases hu:Fz (AJ c.ts p.2).text=0
   . rw [AG hu];have n1:(AJ c.ts p.2).text≠[43,61]:=fun e=>by rw [e] at hu;exact absurd hu AY
     have n2:(AJ c.ts p.2).text≠[45,61]:=fun e=>by rw [e] at hu;exact absurd hu AY
     have n3:(AJ c.ts p.2).text≠[94,61]:=fun e=>by rw [e] at hu;exact absurd hu AY
     have n4:(AJ c.ts p.2).text≠[58,61]:=fun e=>by rw [e] at hu;exact absurd hu AY
     refine Ac func81 ntmps81 rfl rfl ?_;refine cS (eA [_,_,_,_] ?_);intro il im ap df io ip;revert hP X;refine eE df ?_;intro hP X;refine eK ?_;refine eQ rfl (a5 Ae) ?_;rintro _ dm ⟨iq,⟨dn,⟨⟨⟩,⟨ae,⟨aw,bc⟩⟩⟩⟩⟩;have dp:=bc.size;have ap:=ap.fr bc Ab;clear hP;have X:=X.fr bc Ab;refine xA [_,_,_,_] ?_;intro dq dr b4;refine eI [_,_,_,_] b4 ?_;intro ds ag b5 dt du;revert ae aw ap X;refine eE b5 ?_;intro ae aw ap X;refine eK ?_;refine cC rfl (BE _ _ _ Ae) ?_;rintro _ dv ⟨⟨⟩,b6⟩;revert ag ae aw ap X;refine eY b6 ?_;intro dw ag ae aw ap X;refine C1 (Bn Ad rfl rfl rfl rfl rfl rfl) ?_;refine eK ?_;refine cC rfl (FC _ _ _ Ae) ?_;rintro _ dx ⟨⟨⟩,⟨bj,bk⟩⟩;revert ag ae;refine eZ bk ?_;intro dy ag ae;revert ap X;refine eF bk ?_;intro ap X;refine cN (C1 (xB [_,_,_,_]) (eS [_,_,_,_] ap ?_));intro dz b7 b8 d0;revert bj ag ae X;refine eF b8 ?_;intro bj ag ae X;refine eK ?_;refine xC b7 ?_;all_goals exact A4 CZ Ae X
   . rw [As hu];have ba:=DO b0 (bW (RS hu));have c6:=Ff ba;have h2:=ba.2;have hf:4*mS c.ts (AA p.2)+4<=k:=by omega
     have bz:(AJ c.ts p.2).text=[43,61]\/(AJ c.ts p.2).text=[45,61]\/(AJ c.ts p.2).text=[94,61]\/(AJ c.ts p.2).text=[58,61]:=by
      unfold Fz at hu;by_cases e1:(AJ c.ts p.2).text=[43,61]
      . exact bW e1
      by_cases e2:(AJ c.ts p.2).text=[45,61]
      . exact bX (bW e2)
      by_cases e3:(AJ c.ts p.2).text=[94,61]
      . exact bX (bX (bW e3))
      by_cases e4:(AJ c.ts p.2).text=[58,61]
      . exact bX (bX (bX e4))
      . simp [e1,e2,e3,e4] at hu
     rcases bz with e|e|e|e
     . rw [show Fz (AJ c.ts p.2).text=40 from by rw [e];decide];refine Ac func81 ntmps81 rfl rfl ?_;refine cS (eA [_,_,_,_] ?_);intro ir it Z dg iu iv;revert hP X;refine eE dg ?_;intro hP X;refine eK ?_;refine eQ rfl (a5 Ae) ?_;rintro _ d1 ⟨iw,⟨d2,⟨⟨⟩,⟨F,⟨aq,bd⟩⟩⟩⟩⟩;have d3:=bd.size;have Z:=Z.fr bd Ab;clear hP;have X:=X.fr bd Ab;refine xA [_,_,_,_] ?_;intro d4 d5 b9;refine eI [_,_,_,_] b9 ?_;intro d6 O ca d7 d8;revert F aq Z X;refine eE ca ?_;intro F aq Z X;refine eK ?_;refine cC rfl (BE _ _ _ Ae) ?_;rintro _ d9 ⟨⟨⟩,cb⟩;revert O F aq Z X;refine eY cb ?_;intro ea O F aq Z X;refine C1 (Bn Ad rfl rfl rfl rfl rfl rfl) (cT (Av (cS (C1 V8 (C1 Pa (cT (Ph (Aj (C1 Pa (Ak (Af ?_)))))))))));refine Ag (cS (C1 Mv (C1 Pn (C1 Pf (C1 (Pl (PP.blk aq)) ?_)))));refine eK ?_;refine B9 Ad rfl rfl rfl rfl Ae h2 ?_;rintro eb ec bl;revert O F;refine eZ bl ?_;intro ed O F;revert Z X;refine eF bl ?_;intro Z X;refine eK ?_;refine eQ rfl ((Ej c k).expr _ _ _ Ae hf AY AY) ?_;rintro _ ee ⟨ef,⟨eg,⟨⟨⟩,⟨ah,⟨ai,bm⟩⟩⟩⟩⟩;have eh:=bm.size;revert O F Z X;refine eF bm ?_;intro O F Z X;refine xA [_,_,_,_] ?_;intro ei ej cc;refine eI [_,_,_,_] cc ?_;intro ek ax cd el em;revert ah ai O F Z X;refine eE cd ?_;intro ah ai O F Z X;refine eK ?_;refine AC (xS [_,_,_,_,_,_,_,_]) rfl ?_ aFh;rintro _ en ⟨eo,rfl,ay,ep⟩;have bn:=ay.blk;have ce:=ay.ext;have er:=ay.pos;have es:=ay.size;revert ax ah ai O F Z X;refine eE ce ?_;intro ax ah ai O F Z X;refine C1 (xB [_,_,_,_]) (eS [_,_,_,_] Z ?_);intro et cf cg eu;revert bn ax ah ai O F X;refine eF cg ?_;intro bn ax ah ai O F X;refine eK ?_;refine xC cf ?_
       all_goals exact A4 (Ks Ae Ab Ae (fun b h=>by omega) Ae (fun b h=>by omega)) Ae X
     . rw [show Fz (AJ c.ts p.2).text=41 from by rw [e];decide];refine Ac func81 ntmps81 rfl rfl ?_;refine cS (eA [_,_,_,_] ?_);intro ix iy aa dh iz i0;revert hP X;refine eE dh ?_;intro hP X;refine eK ?_;refine eQ rfl (a5 Ae) ?_;rintro _ ew ⟨i1,⟨ex,⟨⟨⟩,⟨G,⟨ar,be⟩⟩⟩⟩⟩;have ey:=be.size;have aa:=aa.fr be Ab;clear hP;have X:=X.fr be Ab;refine xA [_,_,_,_] ?_;intro ez e0 ch;refine eI [_,_,_,_] ch ?_;intro e5 U ci e6 e7;revert G ar aa X;refine eE ci ?_;intro G ar aa X;refine eK ?_;refine cC rfl (BE _ _ _ Ae) ?_;rintro _ e8 ⟨⟨⟩,cj⟩;revert U G ar aa X;refine eY cj ?_;intro e9 U G ar aa X;refine C1 (Bn Ad rfl rfl rfl rfl rfl rfl) (cT (Av (cS (C1 V8 (C1 Pa (cT (Fu rfl (fun N=>absurd (e.symm.trans N) AY) (cS (C1 V8 (C1 Pa (cT ?_)))))))))));refine Ph (Aj (C1 Pa (Ak (Af (Ag (cS (C1 Mv (C1 Pn (C1 Pf (C1 (Pl (PP.blk ar)) ?_))))))))));refine eK ?_;refine B9 Ad rfl rfl rfl rfl Ae h2 ?_;rintro fa fb bo;revert U G;refine eZ bo ?_;intro fc U G;revert aa X;refine eF bo ?_;intro aa X;refine eK ?_;refine eQ rfl ((Ej c k).expr _ _ _ Ae hf AY AY) ?_;rintro _ fd ⟨fe,⟨ff,⟨⟨⟩,⟨aj,⟨ak,bp⟩⟩⟩⟩⟩;have fg:=bp.size;revert U G aa X;refine eF bp ?_;intro U G aa X;refine xA [_,_,_,_] ?_;intro fh fj ck;refine eI [_,_,_,_] ck ?_;intro fk az cl fl fm;revert aj ak U G aa X;refine eE cl ?_;intro aj ak U G aa X;refine eK ?_;refine AC (xS [_,_,_,_,_,_,_,_]) rfl ?_ aFh;rintro _ fo ⟨fp,rfl,a0,fq⟩;have bq:=a0.blk;have cm:=a0.ext;have fs:=a0.pos;have ft:=a0.size;revert az aj ak U G aa X;refine eE cm ?_;intro az aj ak U G aa X;refine C1 (xB [_,_,_,_]) (eS [_,_,_,_] aa ?_);intro fu cn co fv;revert bq az aj ak U G X;refine eF co ?_;intro bq az aj ak U G X;refine eK ?_;refine xC cn ?_
       all_goals exact A4 (Ks Ae Ab Ae (fun b h=>by omega) Ae (fun b h=>by omega)) Ae X
     . rw [show Fz (AJ c.ts p.2).text=42 from by rw [e];decide];refine Ac func81 ntmps81 rfl rfl ?_;refine cS (eA [_,_,_,_] ?_);intro i2 i3 ab di i4 i5;revert hP X;refine eE di ?_;intro hP X;refine eK ?_;refine eQ rfl (a5 Ae) ?_;rintro _ fw ⟨i6,⟨fx,⟨⟨⟩,⟨L,⟨au,bf⟩⟩⟩⟩⟩;have fy:=bf.size;have ab:=ab.fr bf Ab;clear hP;have X:=X.fr bf Ab;refine xA [_,_,_,_] ?_;intro fz f0 cp;refine eI [_,_,_,_] cp ?_;intro f1 V cq f2 f3;revert L au ab X;refine eE cq ?_;intro L au ab X;refine eK ?_;refine cC rfl (BE _ _ _ Ae) ?_;rintro _ f4 ⟨⟨⟩,cr⟩;revert V L au ab X;refine eY cr ?_;intro f5 V L au ab X;refine C1 (Bn Ad rfl rfl rfl rfl rfl rfl) (cT (Av (cS (C1 V8 (C1 Pa (cT (Fu rfl (fun N=>absurd (e.symm.trans N) AY) (cS (C1 V8 (C1 Pa (cT ?_)))))))))));refine Fu rfl (fun N=>absurd (e.symm.trans N) AY) (cS (C1 V8 (C1 Pa (cT (Ph (Aj (C1 Pa (Ak (Af (Ag (cS ?_)))))))))));refine C1 Mv (C1 Pn (C1 Pf (C1 (Pl (PP.blk au)) ?_)));refine eK ?_;refine B9 Ad rfl rfl rfl rfl Ae h2 ?_;rintro f6 f7 br;revert V L;refine eZ br ?_;intro f8 V L;revert ab X;refine eF br ?_;intro ab X;refine eK ?_;refine eQ rfl ((Ej c k).expr _ _ _ Ae hf AY AY) ?_;rintro _ f9 ⟨ga,⟨gb,⟨⟨⟩,⟨al,⟨am,bs⟩⟩⟩⟩⟩;have gc:=bs.size;revert V L ab X;refine eF bs ?_;intro V L ab X;refine xA [_,_,_,_] ?_;intro gd gf ct;refine eI [_,_,_,_] ct ?_;intro gg a1 cu gh gi;revert al am V L ab X;refine eE cu ?_;intro al am V L ab X;refine eK ?_;refine AC (xS [_,_,_,_,_,_,_,_]) rfl ?_ aFh;rintro _ gj ⟨gk,rfl,a2,gl⟩;have bt:=a2.blk;have cv:=a2.ext;have gm:=a2.pos;have gn:=a2.size;revert a1 al am V L ab X;refine eE cv ?_;intro a1 al am V L ab X;refine C1 (xB [_,_,_,_]) (eS [_,_,_,_] ab ?_);intro go cw cx gp;revert bt a1 al am V L X;refine eF cx ?_;intro bt a1 al am V L X;refine eK ?_;refine xC cw ?_
       all_goals exact A4 (Ks Ae Ab Ae (fun b h=>by omega) Ae (fun b h=>by omega)) Ae X
     . rw [show Fz (AJ c.ts p.2).text=56 from by rw [e];decide];refine Ac func81 ntmps81 rfl rfl ?_;refine cS (eA [_,_,_,_] ?_);intro i7 i8 ac dk i9 ja;revert hP X;refine eE dk ?_;intro hP X;refine eK ?_;refine eQ rfl (a5 Ae) ?_;rintro _ gq ⟨jb,⟨gr,⟨⟨⟩,⟨M,⟨av,bg⟩⟩⟩⟩⟩;have gs:=bg.size;have ac:=ac.fr bg Ab;clear hP;have X:=X.fr bg Ab;refine xA [_,_,_,_] ?_;intro gt gu cy;refine eI [_,_,_,_] cy ?_;intro gv Y cz gw gx;revert M av ac X;refine eE cz ?_;intro M av ac X;refine eK ?_;refine cC rfl (BE _ _ _ Ae) ?_;rintro _ gy ⟨⟨⟩,c0⟩;revert Y M av ac X;refine eY c0 ?_;intro gz Y M av ac X;refine C1 (Bn Ad rfl rfl rfl rfl rfl rfl) (cT (Av (cS (C1 V8 (C1 Pa (cT (Fu rfl (fun N=>absurd (e.symm.trans N) AY) (cS (C1 V8 (C1 Pa (cT ?_)))))))))));refine Fu rfl (fun N=>absurd (e.symm.trans N) AY) (cS (C1 V8 (C1 Pa (cT (Fu rfl (fun N=>absurd (e.symm.trans N) AY) (cS (C1 V8 (C1 Pa (cT (Ph (Aj ?_)))))))))));refine C1 Pa (Ak (Af (Ag (cS (C1 Mv (C1 Pn (C1 Pf (C1 (Pl (PP.blk av)) ?_))))))));refine eK ?_;refine B9 Ad rfl rfl rfl rfl Ae h2 ?_;rintro g0 g1 bu;revert Y M;refine eZ bu ?_;intro g2 Y M;revert ac X;refine eF bu ?_;intro ac X;refine eK ?_;refine eQ rfl ((Ej c k).expr _ _ _ Ae hf AY AY) ?_;rintro _ g3 ⟨g4,⟨g5,⟨⟨⟩,⟨an,⟨ao,bv⟩⟩⟩⟩⟩;have g6:=bv.size;revert Y M ac X;refine eF bv ?_;intro Y M ac X;refine xA [_,_,_,_] ?_;intro g7 g8 c1;refine eI [_,_,_,_] c1 ?_;intro g9 a3 c2 ha hb;revert an ao Y M ac X;refine eE c2 ?_;intro an ao Y M ac X;refine eK ?_;refine AC (xS [_,_,_,_,_,_,_,_]) rfl ?_ aFh;rintro _ hc ⟨hd,rfl,a4,he⟩;have bw:=a4.blk;have c3:=a4.ext;have hg:=a4.pos;have hi:=a4.size;revert a3 an ao Y M ac X;refine eE c3 ?_;intro a3 an ao Y M ac X;refine C1 (xB [_,_,_,_]) (eS [_,_,_,_] ac ?_);intro hj c4 c5 hn;revert bw a3 an ao Y M X;refine eF c5 ?_;intro bw a3 an ao Y M X;refine eK ?_;refine xC c4 ?_
       all_goals exact A4 (Ks Ae Ab Ae (fun b h=>by omega) Ae (fun b h=>by omega)) Ae X
def Qb {c:PC} {σ:PS} {w:wD} (F:PP c σ w) (ρ:PS):(AJ c.ts ρ).text.length<=1000000:=by
 unfold AJ;split
 . simp [Tok.zero]
 . rw [cB];rcases cO ρ.at_ c.ts.length with h|h
   . rw [bT h];exact F.tok _ (cL h)
   . rw [cI h];simp [Tok.zero]
def L1 (c:PC) (k:Nat) (kind:Int) (σ:PS) (w:wD) (hP:PP c σ w) (hi:In c.ts σ) (hk:4*mS c.ts σ<=k) :
 Calls prog 78 #[.pointer (some ⟨c.pb,0,none⟩),.int .u8 kind] w (TreeR c w (JE c.ts c.n k kind σ)):=by
 have X:=fC (· = c.pb) w;have hpb:=hP.pbB;have hB:=hP.B;have hlen:=hP.len;have h2:=hi.2;have hm:=Ff hi;have a3:=Bg hi;have a4:=a3.trans (BW (n:=c.n) a3.wf);have a5:=a4.trans (AX (n:=c.n) (t:=[40]) a4.wf AY);unfold JE;dsimp only;generalize hM:BJ c.ts c.n (AA σ)=M at *;have hname : ∀ {w':wD},PP c (AA σ) w'->Calls prog 114 #[.pointer (some ⟨c.pb,0,none⟩)] w' fun r w''=>r = .returned (str M.1)/\PP c M.2 w''/\Fr (· = c.pb) w' w'':=fun h=>hM▸G9 c _ _ h
 cases hh:DA c.ts (AW c.ts c.n M.2 [40]) [41]
 case true=>
  simp only [if_true];refine Ac func78 ntmps78 rfl rfl ?_;refine cS (eA [_,_,_,_] ?_);intro b1 w2 h5 x6 p7 z8;revert hP X;refine eE x6 ?_;intro hP X;refine cN (C1 Mv (C1 Pn (C1 Pf (C1 (Pl (PP.blk hP)) ?_))));refine eK ?_;refine B9 Ad rfl rfl rfl rfl Ae h2 ?_;rintro w9 e7 a1;have e8:=a1.size;have h5:=h5.fr a1 Ab;clear hP;have X:=X.fr a1 Ab;refine eK ?_;refine cC rfl (hname Ae) ?_;rintro _ e9 ⟨⟨⟩,⟨a6,a7⟩⟩;have fa:=a7.size;revert h5 X;refine eF a7 ?_;intro h5 X;refine C1 (xB [_,_,_,_]) (xA [_,_,_,_] ?_);intro fb fc cf;refine eI [_,_,_,_] cf ?_;intro fd R cg fe ff;revert a6 h5 X;refine eE cg ?_;intro a6 h5 X;refine eK ?_;refine cC rfl (CT _ _ _ _ Ae AY) ?_;rintro _ fg ⟨⟨⟩,⟨fh,a2⟩⟩;have fi:=a2.size;have R:=R.fr a2 Ab;revert h5 X;refine eF a2 ?_;intro h5 X;refine eK ?_;refine cC rfl (DD _ _ _ _ Ae AY Ae) ?_;rintro _ fj ⟨⟨⟩,⟨a8,a9⟩⟩;have fk:=a9.size;revert R h5 X;refine eF a9 ?_;intro R h5 X;refine eK ?_;refine eS [_,_,_,_] h5 ?_;intro fl ch ci fm;revert a8 R X;refine eF ci ?_;intro a8 R X;refine eK ?_;refine xC ch ?_;exact A4 CZ Ae X
 simp only [dK,if_false];refine Ac func78 ntmps78 rfl rfl ?_;refine cS (eA [_,_,_,_] ?_);intro ba fn d cj fo fp;revert hP X;refine eE cj ?_;intro hP X;refine cN (C1 Mv (C1 Pn (C1 Pf (C1 (Pl (PP.blk hP)) ?_))));refine eK ?_;refine B9 Ad rfl rfl rfl rfl Ae h2 ?_;rintro fq cs T;have ct:=T.size;have d:=d.fr T Ab;clear hP;have X:=X.fr T Ab;refine eK ?_;refine cC rfl (hname Ae) ?_;rintro _ cu ⟨⟨⟩,⟨ae,af⟩⟩;have cv:=af.size;revert d X;refine eF af ?_;intro d X;refine C1 (xB [_,_,_,_]) (xA [_,_,_,_] ?_);intro E cw bb;refine eI [_,_,_,_] bb ?_;intro cx a bc cy cz;revert ae d X;refine eE bc ?_;intro ae d X;refine eK ?_;refine cC rfl (CT _ _ _ _ Ae AY) ?_;rintro _ c0 ⟨⟨⟩,⟨c1,U⟩⟩;have c2:=U.size;have a:=a.fr U Ab;revert d X;refine eF U ?_;intro d X;refine eK ?_;refine cC rfl (C2 _ _ _ _ Ae AY Ae) ?_;rintro _ ag ⟨⟨⟩,⟨V,ah⟩⟩;have c3:=ah.size;revert a d X;refine eF ah ?_;intro a d X;refine eK ?_;refine Ar (fun wz=>Fr (· = c.pb) ag wz) 5 (.pure 0 (.pure 1 (.pure 2 (.fork 3 (.fork 4 .tail .none) .none)))) mixed A9 (Aa Ah) ?_;intro bd ai _;have e:(fun wz=>Fr (· = c.pb) ag wz) bd:=fE ai;simp only at e;have ca:=V;have ad:=a;have ck:=d;revert V a d X;refine eY ai ?_;intro c4 V a d X;refine ⟨e,?_⟩;refine Tq rfl Pf (Tq rfl (An Ad rfl rfl rfl (fun wz hz=>fD (fB ad hz Ab) rfl)) (Tq rfl Mv ?_));refine tC rfl rfl (Ha _ _ _ Ae) ?_;rintro _ c5 ⟨c6,⟨c7,⟨⟨⟩,⟨W,⟨u,Y⟩⟩⟩⟩⟩;have c8:=Y.size;have e:=e.fr Y Ab;revert a d X;refine eF Y ?_;intro a d X;refine ⟨e,?_⟩;refine Ax rfl (xS [_,_,_,_]) rfl ?_ aFh Aw;rintro _ c9 ⟨da,rfl,F,db⟩;have aj:=F.blk;have be:=F.ext;have dc:=F.pos;have dd:=F.size;revert W u e a d X;refine eE be ?_;intro W u e a d X;refine ⟨e,?_⟩;refine At rfl ?_
 refine C7 (sh:=ndShape) (B:=E+1) Ad CY rfl rfl rfl rfl A9 rfl rfl rfl OwnL.nil (fN aj) ⟨_,_,rfl,CZ⟩ AR Ab rfl ?_;intro g cap wA hown fA;have zA:=fA.size;have u:=u.fr fA (fun k hk=>by omega);revert a d;refine eF fA ?_;intro a d;have X:=X.fr fA (fun k hk=>bX Ab);clear fA aj W;refine C1 Pf (eV [_] [_,_,_,_] a ?_);intro cl bf cm fs;revert hown u d X;refine eF cm ?_;intro hown u d X;refine cT (Ai (Av ?_));generalize ha:ED c.ts c.n (AW c.ts c.n M.2 [40])=A at *;have hA:Le c.ts σ A.2:=by rw [<-ha];exact a5.trans (BW (n:=c.n) a5.wf)
 have ft:=Ed hA;have hmt:mS c.ts σ<=c.ts.length:=by unfold mS;split<;>omega
 refine A1 (ι:=Nat×List Nd×Nat×Nat×PS) (fun _=>[(0,.pointer (some ⟨c.pb,0,none⟩)),(4,.pointer (some ⟨ba,0,none⟩)),(5,.pointer (some ⟨E,0,none⟩))])
  (fun x w'=>PP c x.2.2.2.2 w'/\Blk w' E [.int .u8 kind,.int .i64 0,str M.1,.slice (some ⟨x.2.2.1,0,none⟩) x.2.1.length x.2.2.2.1]/\OwnL ndShape w' (E+1) 26 (.slice (some ⟨x.2.2.1,0,none⟩) x.2.1.length x.2.2.2.1) x.2.1 /\
   Blk w' ba [.int .u8 0,.int .i64 0,.string ⟨#[]⟩,.slice none 0 0]/\Fr (· = c.pb) w w'/\cl.heap.size<=w'.heap.size /\
   Ea c.ts c.n k [A.1] A.2=Ea c.ts c.n x.1 x.2.1 x.2.2.2.2/\mS c.ts x.2.2.2.2+1<=x.1/\x.2.1.length+mS c.ts x.2.2.2.2<=1000001) (fun x=>x.1) (k,[A.1],g,cap,A.2) sB
  ⟨Ae,bf,hown,Ae,X,cH _,rfl,by simp only;omega,by simp only [cF,dD];omega⟩ ?_
 rintro ⟨j,acc,g,cap,σ'⟩ w1 ⟨hP,hbn,hown,hbr,X,hz,he,hfj,hacc⟩;simp only at hP hbn hown he hfj hacc;clear bf hM hname;rw [he];obtain ⟨j,rfl⟩ : ∃i,j=i+1:=⟨j-1,Ab⟩
 cases hc:DA c.ts σ' [44]
 case false=>
  rw [show Ea c.ts c.n (j+1) acc σ'=(acc,σ') from by rw [Ea];simp [hc]];refine eK ?_;refine cC rfl (C2 _ _ _ _ Ae AY Ae) ?_;rintro _ fu ⟨⟨⟩,⟨fv,bg⟩⟩;have fw:=bg.size;clear hP;revert hbn hown hbr X;refine eF bg ?_;intro hbn hown hbr X;refine eK ?_;refine cC rfl (CT _ _ _ _ Ae AY) ?_;rintro _ fx ⟨⟨⟩,⟨bh,bi⟩⟩;have fy:=bi.size;revert hbn hown hbr X;refine eF bi ?_;intro hbn hown hbr X;refine eK ?_;refine eS [_,_,_,_] hbr ?_;intro fz bj bk de;clear hbr;revert bh hbn hown X;refine eF bk ?_;intro bh hbn hown X;refine eK ?_;refine xC bj ?_;exact A4 (Iy (hown.sits (fun b h=>by omega))) Ae X
 have hin:=Ct hP.at_ hc AY;have hmn:=Ff hin;have hnl:=Qb hP (AA σ');by_cases h8:acc.length=8
 . cases hnm:CF (AJ c.ts (AA σ')).text
   . rw [show Ea c.ts c.n (j+1) acc σ'=Ea c.ts c.n j (acc++[(ED c.ts c.n (AA σ')).1]) (ED c.ts c.n (AA σ')).2 from by rw [Ea];simp [hc,h8,hnm]];have hml:=Ed (BW (n:=c.n) (show (AA σ').at_<=c.ts.length from hin.2));have ak:mS c.ts (ED c.ts c.n (AA σ')).2<=mS c.ts (AA σ'):=hml;refine eK ?_;refine cC rfl (DD _ _ _ _ Ae AY Ae) ?_;rintro _ f0 ⟨⟨⟩,⟨C,bl⟩⟩;have f1:=bl.size;clear hP;revert hbn hown hbr X;refine eF bl ?_;intro hbn hown hbr X;refine eK ?_;refine cC rfl (BE _ _ _ Ae) ?_;rintro _ f2 ⟨⟨⟩,cn⟩;revert C hbn hown hbr X;refine eY cn ?_;intro f3 C hbn hown hbr X;refine xA [_,_,_] ?_;intro f4 f5 bm;refine eI [_,_,_] bm ?_;intro df p bn dg dh;revert C hbn hown hbr X;refine eE bn ?_;intro C hbn hown hbr X;refine eK ?_;refine cC rfl (I8 _ _ Ab) ?_;rintro _ al ⟨⟨⟩,bo⟩;revert p C hbn hown hbr X;refine eY bo ?_;intro di p C hbn hown hbr X;refine C1 SG (cT (FK rfl Ae ?_));refine eK ?_;refine Ar (fun wz=>Fr (· = c.pb) al wz) 5 (.pure 0 (.pure 1 (.pure 2 (.fork 3 (.fork 4 .tail .none) .none)))) mixed A9 (Al (Aa (Al (Aa Ah)))) ?_;intro bp am _;have f:(fun wz=>Fr (· = c.pb) al wz) bp:=fE am;simp only at f;have cb:=p;have co:=C;have q:=hbn;have G:=hown;have Z:=hbr;revert p C hbn hown hbr X;refine eY am ?_;intro dj p C hbn hown hbr X;refine ⟨f,?_⟩;refine Tq rfl Pf (Tq rfl (An Ad rfl rfl rfl (fun wz hz=>fD (fB q hz Ab) rfl)) (Tq rfl Mv ?_))
     refine tC rfl rfl (Ha _ _ _ Ae) ?_;rintro _ dk ⟨dl,⟨dm,⟨⟨⟩,⟨an,⟨v,ao⟩⟩⟩⟩⟩;revert f p;refine eZ ao ?_;intro dn f p;revert hbn hown hbr X;refine eF ao ?_;intro hbn hown hbr X;refine ⟨f,?_⟩;refine Ax rfl (xS [_,_,_,_]) rfl ?_ aFh Aw;rintro _ dp ⟨dq,rfl,I,dr⟩;have ds:=I.blk;have bq:=I.ext;have dt:=I.pos;have du:=I.size;revert an v f p hbn hown hbr X;refine eE bq ?_;intro an v f p hbn hown hbr X;refine ⟨f,?_⟩;refine At rfl (C7 (sh:=ndShape) Ad CY rfl rfl rfl rfl A9 rfl rfl rfl hown (fN Ae) ⟨_,_,rfl,CZ⟩ Ab Ab rfl ?_);rintro dv br dw ap J;have dx:=J.size;have v:=v.fr J Ab;have hbn:=hbn.fr J Ab;clear hown;revert hbr X;refine eF J ?_;intro hbr X;refine C1 Pf (eV [_] [_,_,_,_] hbn ?_);intro dy dz bs d0;clear hbn;revert ap v hbr X;refine eF bs ?_;intro ap v hbr X;refine Ak (Af ?_);refine AI (j,acc++[(ED c.ts c.n (AA σ')).1],_,_,(ED c.ts c.n (AA σ')).2) sB ⟨Ae,Ae,Ae,Ae,X,Ab,rfl,by simp only;omega,by simp only [cP,cF,dD];omega⟩ AR
   . rw [show Ea c.ts c.n (j+1) acc σ'=Ea c.ts c.n j (acc++[(ED c.ts c.n (Dc (AA σ') (AJ c.ts (AA σ')).pos 5)).1]) (ED c.ts c.n (Dc (AA σ') (AJ c.ts (AA σ')).pos 5)).2 from by rw [Ea];simp [hc,h8,hnm]];have hfl:=JO (show (AA σ').at_<=c.ts.length from hin.2) (AJ c.ts (AA σ')).pos 5;have hml:=Ed (hfl.trans (BW (n:=c.n) hfl.wf));have ak:mS c.ts (ED c.ts c.n (Dc (AA σ') (AJ c.ts (AA σ')).pos 5)).2<=mS c.ts (AA σ'):=hml;refine eK ?_;refine cC rfl (DD _ _ _ _ Ae AY Ae) ?_;rintro _ f6 ⟨⟨⟩,⟨S,bt⟩⟩;have f7:=bt.size;clear hP;revert hbn hown hbr X;refine eF bt ?_;intro hbn hown hbr X;refine eK ?_;refine cC rfl (BE _ _ _ Ae) ?_;rintro _ f8 ⟨⟨⟩,cp⟩;revert S hbn hown hbr X;refine eY cp ?_;intro f9 S hbn hown hbr X;refine xA [_,_,_] ?_;intro ga gb bu;refine eI [_,_,_] bu ?_;intro d1 l bv d2 d3;revert S hbn hown hbr X;refine eE bv ?_;intro S hbn hown hbr X;refine eK ?_;refine cC rfl (I8 _ _ Ab) ?_;rintro _ d4 ⟨⟨⟩,bw⟩;revert l S hbn hown hbr X;refine eY bw ?_;intro d5 l S hbn hown hbr X;refine C1 SG (cT (EF rfl Ae ?_));refine eK ?_;refine cC rfl (Ie _ _ _ _ _ Ae) ?_;rintro _ aq ⟨⟨⟩,⟨aa,ab⟩⟩;have d6:=ab.size;have l:=l.fr ab Ab;revert hbn hown hbr X;refine eF ab ?_;intro hbn hown hbr X;refine cT (Ar (fun wz=>Fr (· = c.pb) aq wz) 5 (.pure 0 (.pure 1 (.pure 2 (.fork 3 (.fork 4 .tail .none) .none)))) mixed A9 (Al (Aa (Al (Aa Ah)))) ?_);intro bx ar _;have m:(fun wz=>Fr (· = c.pb) aq wz) bx:=fE ar;simp only at m;have cc:=aa
     have cd:=l;have q:=hbn;have G:=hown;have Z:=hbr;revert aa l hbn hown hbr X;refine eY ar ?_;intro d7 aa l hbn hown hbr X;refine ⟨m,?_⟩;refine Tq rfl Pf (Tq rfl (An Ad rfl rfl rfl (fun wz hz=>fD (fB q hz Ab) rfl)) (Tq rfl Mv ?_));refine tC rfl rfl (Ha _ _ _ Ae) ?_;rintro _ d8 ⟨d9,⟨ea,⟨⟨⟩,⟨au,⟨y,ac⟩⟩⟩⟩⟩;have eb:=ac.size;have m:=m.fr ac Ab;revert l hbn hown hbr X;refine eF ac ?_;intro l hbn hown hbr X;refine ⟨m,?_⟩;refine Ax rfl (xS [_,_,_,_]) rfl ?_ aFh Aw;rintro _ ec ⟨ed,rfl,L,ee⟩;have ef:=L.blk;have bz:=L.ext;have eg:=L.pos;have eh:=L.size;revert au y m l hbn hown hbr X;refine eE bz ?_;intro au y m l hbn hown hbr X;refine ⟨m,?_⟩;refine At rfl (C7 (sh:=ndShape) Ad CY rfl rfl rfl rfl A9 rfl rfl rfl hown (fN Ae) ⟨_,_,rfl,CZ⟩ Ab Ab rfl ?_);rintro ei b0 ej av N;have ek:=N.size;have y:=y.fr N Ab;have hbn:=hbn.fr N Ab;clear hown;revert hbr X;refine eF N ?_;intro hbr X;refine C1 Pf (eV [_] [_,_,_,_] hbn ?_);intro el em b2 en;clear hbn;revert av y hbr X;refine eF b2 ?_;intro av y hbr X;refine Ak (Af ?_);refine AI (j,acc++[(ED c.ts c.n (Dc (AA σ') (AJ c.ts (AA σ')).pos 5)).1],_,_,(ED c.ts c.n (Dc (AA σ') (AJ c.ts (AA σ')).pos 5)).2) sB ⟨Ae,Ae,Ae,Ae,X,Ab,rfl,by simp only;omega,by simp only [cP,cF,dD];omega⟩ AR
 . rw [show Ea c.ts c.n (j+1) acc σ'=Ea c.ts c.n j (acc++[(ED c.ts c.n (AA σ')).1]) (ED c.ts c.n (AA σ')).2 from by rw [Ea];simp [hc,h8]];have hml:=Ed (BW (n:=c.n) (show (AA σ').at_<=c.ts.length from hin.2));have ak:mS c.ts (ED c.ts c.n (AA σ')).2<=mS c.ts (AA σ'):=hml;refine eK ?_;refine cC rfl (DD _ _ _ _ Ae AY Ae) ?_;rintro _ gc ⟨⟨⟩,⟨D,b3⟩⟩;have gd:=b3.size;clear hP;revert hbn hown hbr X;refine eF b3 ?_;intro hbn hown hbr X;refine eK ?_;refine cC rfl (BE _ _ _ Ae) ?_;rintro _ ge ⟨⟨⟩,cq⟩;revert D hbn hown hbr X;refine eY cq ?_;intro gf D hbn hown hbr X;refine xA [_,_,_] ?_;intro gg gh b4;refine eI [_,_,_] b4 ?_;intro aw s b5 eo ep;revert D hbn hown hbr X;refine eE b5 ?_;intro D hbn hown hbr X;refine eK ?_;refine Ar (fun wz=>Fr (· = c.pb) aw wz) 5 (.pure 0 (.pure 1 (.pure 2 (.fork 3 (.fork 4 .tail .none) .none)))) mixed A9 (Al (Aa (Al (Aa Ah)))) ?_;intro b6 ax _;have o:(fun wz=>Fr (· = c.pb) aw wz) b6:=fE ax;simp only at o;have ce:=s;have cr:=D;have q:=hbn;have G:=hown;have Z:=hbr;revert s D hbn hown hbr X;refine eY ax ?_;intro eq s D hbn hown hbr X;refine ⟨o,?_⟩;refine Tq rfl Pf (Tq rfl (An Ad rfl rfl rfl (fun wz hz=>fD (fB q hz Ab) rfl)) (Tq rfl Mv ?_));refine tC rfl rfl (Ha _ _ _ Ae) ?_;rintro _ er ⟨es,⟨et,⟨⟨⟩,⟨ay,⟨z,az⟩⟩⟩⟩⟩
   revert o s;refine eZ az ?_;intro eu o s;revert hbn hown hbr X;refine eF az ?_;intro hbn hown hbr X;refine ⟨o,?_⟩;refine Ax rfl (xS [_,_,_,_]) rfl ?_ aFh Aw;rintro _ ev ⟨ew,rfl,O,ex⟩;have ey:=O.blk;have b7:=O.ext;have ez:=O.pos;have e0:=O.size;revert ay z o s hbn hown hbr X;refine eE b7 ?_;intro ay z o s hbn hown hbr X;refine ⟨o,?_⟩;refine At rfl (C7 (sh:=ndShape) Ad CY rfl rfl rfl rfl A9 rfl rfl rfl hown (fN Ae) ⟨_,_,rfl,CZ⟩ Ab Ab rfl ?_);rintro e1 b8 e2 a0 Q;have e3:=Q.size;have z:=z.fr Q Ab;have hbn:=hbn.fr Q Ab;clear hown;revert hbr X;refine eF Q ?_;intro hbr X;refine C1 Pf (eV [_] [_,_,_,_] hbn ?_);intro e4 e5 b9 e6;clear hbn;revert a0 z hbr X;refine eF b9 ?_;intro a0 z hbr X;refine Ak (Af ?_);refine AI (j,acc++[(ED c.ts c.n (AA σ')).1],_,_,(ED c.ts c.n (AA σ')).2) sB ⟨Ae,Ae,Ae,Ae,X,Ab,rfl,by simp only;omega,by simp only [cP,cF,dD];omega⟩ AR
structure StmtsC (c:PC) (k:Nat):Prop where
 stmt : ∀(σ:PS) (w:wD),PP c σ w->4*mS c.ts σ+6<=k->Calls prog 44 #[.pointer (some ⟨c.pb,0,none⟩)] w (TreeR c w (CH c.ts c.n k σ))
 branches : ∀(kind:Int) (mid last:lB) (σ:PS) (w:wD),PP c σ w->In c.ts σ->mid≠[]->last≠[]->4*mS c.ts σ+5<=k->Calls prog 79 #[.pointer (some ⟨c.pb,0,none⟩),.int .u8 kind,str mid,str last] w (TreeR c w (CV c.ts c.n k kind mid last σ))
 local_ : ∀(σ:PS) (w:wD),PP c σ w->In c.ts σ->4*mS c.ts σ+5<=k->Calls prog 80 #[.pointer (some ⟨c.pb,0,none⟩)] w (TreeR c w (FR c.ts c.n k σ))
 block : ∀(σ:PS) (w:wD),PP c σ w->4*mS c.ts σ+8<=k->Calls prog 118 #[.pointer (some ⟨c.pb,0,none⟩)] w (TreeR c w (EK c.ts c.n k σ))
def RT (c:PC) (k:Nat) (IH : ∀j,j<=k->StmtsC c j) (kind:Int) (ac Z:lB) (σ:PS) (w:wD) (hP:PP c σ w) (hi:In c.ts σ) (ag:ac≠[]) (ad:Z≠[]) (hk:4*mS c.ts σ+5<=k+1) :
 Calls prog 79 #[.pointer (some ⟨c.pb,0,none⟩),.int .u8 kind,str ac,str Z] w (TreeR c w (CV c.ts c.n (k+1) kind ac Z σ)):=by
 have X:=fC (· = c.pb) w;have a4:=hP.pbB;have hB:=hP.B;have a3:=hP.len;have h2:=hi.2;have hm:=Ff hi;rw [CV]
 (try dsimp only)
 have l1:=Bg hi;have l2:=FD (n:=c.n) (k:=k) (lv:=1) l1.wf;have l3:=(Fk (ts:=c.ts) (n:=c.n) k).2.2.2.1 _ l2.wf;have l4:=AX (n:=c.n) l3.wf ag;have l5:=(Fk (ts:=c.ts) (n:=c.n) k).2.2.2.1 _ l4.wf;have l6:=AX (n:=c.n) l5.wf ad;have m2:=Ed l2;have m3:=Ed l3;have m4:=Ed l4;have m5:=Ed l5;have m6:=Ed l6;refine Ac func79 ntmps79 rfl rfl ?_;refine cS (eA [_,_,_,_] ?_);intro b1 w2 N x6 p7 z8;revert hP X;refine eE x6 ?_;intro hP X;refine cN (C1 Mv (C1 Pn (C1 Pf (C1 (Pl (PP.blk hP)) ?_))));refine eK ?_;refine B9 Ad rfl rfl rfl rfl Ae h2 ?_;rintro w9 a5 ae;have a6:=ae.size;have N:=N.fr ae Ab;clear hP;have X:=X.fr ae Ab;refine eK ?_;refine eQ rfl ((Ej c k).expr _ _ _ Ae Ab AY AY) ?_;rintro _ a7 ⟨a8,⟨a9,⟨⟨⟩,⟨F,⟨ah,ai⟩⟩⟩⟩⟩;have ba:=ai.size;revert N X;refine eF ai ?_;intro N X;refine xA [_,_,_,_] ?_;intro bb bc aq;refine eI [_,_,_,_] aq ?_;intro bd G ar be bf;revert F ah N X;refine eE ar ?_;intro F ah N X;refine eK ?_;refine eQ rfl ((IH k (cH _)).block _ _ Ae Ab) ?_;rintro _ bg ⟨a28,⟨bh,⟨⟨⟩,⟨L,⟨aj,ak⟩⟩⟩⟩⟩;revert G F;refine eZ ak ?_;intro bi G F;revert N X;refine eF ak ?_;intro N X;refine xA [_,_,_,_] ?_;intro bj bk au;refine eI [_,_,_,_] au ?_;intro bl M av bm bn;revert L aj G F N X;refine eE av ?_;intro L aj G F N X;refine eK ?_;refine cC rfl (CT _ _ _ _ Ae Ae) ?_;rintro _ bo ⟨⟨⟩,⟨bp,af⟩⟩;have z46:=af.size;revert M L;refine eF af ?_
 intro M L;revert G F N X;refine eF af ?_;intro G F N X;refine eK ?_;refine eQ rfl ((IH k (cH _)).block _ _ Ae Ab) ?_;rintro _ bq ⟨br,⟨bs,⟨⟨⟩,⟨O,⟨al,am⟩⟩⟩⟩⟩;have z53:=am.size;revert M L G F N X;refine eF am ?_;intro M L G F N X;refine xA [_,_,_,_] ?_;intro bt bu aw;refine eI [_,_,_,_] aw ?_;intro bv U ax bw bx;revert O al M L G F N X;refine eE ax ?_;intro O al M L G F N X;refine eK ?_;refine cC rfl (CT _ _ _ _ Ae Ae) ?_;rintro _ Ko ⟨⟨⟩,⟨bz,an⟩⟩;revert U O;refine eZ an ?_;intro b0 U O;revert M L G F N X;refine eF an ?_;intro M L G F N X;refine eK ?_;refine eQ rfl ((Ej c k).expr _ _ _ Ae Ab AY AY) ?_;rintro _ b2 ⟨b3,⟨b4,⟨⟨⟩,⟨V,⟨Y,ao⟩⟩⟩⟩⟩;have b5:=ao.size;revert U O M L G F N X;refine eF ao ?_;intro U O M L G F N X;refine xA [_,_,_,_] ?_;intro b6 b7 ay;refine eI [_,_,_,_] ay ?_;intro b8 aa az b9 z80;revert V Y U O M L G F N X;refine eE az ?_;intro V Y U O M L G F N X;refine eK ?_;refine AC (xS [_,_,_,_,_,_,_,_,_,_,_,_,_,_,_,_]) rfl ?_ aFh;rintro _ ca ⟨cb,rfl,ab,cc⟩;have ap:=ab.blk;have a0:=ab.ext;have cd:=ab.pos;have ce:=ab.size;revert aa V Y U O M L G F N X;refine eE a0 ?_;intro aa V Y U O M L G F N X;refine C1 (xB [_,_,_,_]) (eS [_,_,_,_] N ?_);intro cf a1 a2 cg;revert ap aa V Y U O M L G F X;refine eF a2 ?_;intro ap aa V Y U O M L G F X;refine eK ?_;refine xC a1 ?_
 exact A4 (Za Ae Ab Ae (fun b h=>by omega) Ae (fun b h=>by omega) Ae (fun b h=>by omega) Ae (fun b h=>by omega)) Ae X
def XH (c:PC) (k:Nat) (IH : ∀j,j<=k->StmtsC c j) (σ:PS) (w:wD) (hP:PP c σ w) (hi:In c.ts σ) (hk:4*mS c.ts σ+5<=k+1) :
 Calls prog 80 #[.pointer (some ⟨c.pb,0,none⟩)] w (TreeR c w (FR c.ts c.n (k+1) σ)):=by
 have X:=fC (· = c.pb) w;have hpb:=hP.pbB;have hB:=hP.B;have hlen:=hP.len;have h2:=hi.2;have hm:=Ff hi;have l1:=Bg hi;rw [FR]
 (try dsimp only)
 cases hs:DA c.ts (AA σ) [115,116,97,99,107]
 case true=>
  simp only [if_true];have l2:=Bg (Ct l1.wf hs AY);have l3:=BW (n:=c.n) l2.wf;have m2:=Ed l2;have m3:=Ed l3;refine Ac func80 ntmps80 rfl rfl ?_;refine cS (eA [_,_,_,_] ?_);intro b1 w2 h5 x6 p7 z8;revert hP X;refine eE x6 ?_;intro hP X;refine cN (C1 Mv (C1 Pn (C1 Pf (C1 (Pl (PP.blk hP)) ?_))));refine eK ?_;refine B9 Ad rfl rfl rfl rfl Ae h2 ?_;rintro w9 bq G;have br:=G.size;have h5:=h5.fr G Ab;clear hP;have X:=X.fr G Ab;refine eK ?_;refine cC rfl (DD _ _ _ _ Ae AY Ae) ?_;rintro _ bs ⟨⟨⟩,⟨bt,I⟩⟩;have bu:=I.size;revert h5 X;refine eF I ?_;intro h5 X;refine eK ?_;refine cC rfl (G9 _ _ _ Ae) ?_;rintro _ bv ⟨⟨⟩,⟨bw,J⟩⟩;have bx:=J.size;revert h5 X;refine eF J ?_;intro h5 X;refine eK ?_;refine eQ rfl ((IH k (cH _)).block _ _ Ae Ab) ?_;rintro _ bz ⟨b0,⟨b2,⟨⟨⟩,⟨q,⟨r,L⟩⟩⟩⟩⟩;have b3:=L.size;revert h5 X;refine eF L ?_;intro h5 X;refine AC (xS [_,_,_,_]) rfl ?_ aFh;rintro _ b4 ⟨b5,rfl,s,b6⟩;have M:=s.blk;have Y:=s.ext;have b7:=s.pos;have b8:=s.size;revert q r h5 X;refine eE Y ?_;intro q r h5 X;refine C1 (xB [_,_,_,_]) (eS [_,_,_,_] h5 ?_);intro b9 Z aa ca;revert M q r X;refine eF aa ?_;intro M q r X;refine eK ?_;refine xC Z ?_;exact A4 (Kr Ae Ab Ae (fun b h=>by omega)) Ae X
 simp only [dK,if_false];have l2:=BW (n:=c.n) l1.wf;have l3:=AX (n:=c.n) (t:=[61]) l2.wf AY;have l4:=FD (n:=c.n) (k:=k) (lv:=1) l3.wf;have l5:=(Fk (ts:=c.ts) (n:=c.n) k).2.2.2.1 _ l4.wf;have l6:=AX (n:=c.n) (t:=[100,101,108,111,99,97,108]) l5.wf AY;have m2:=Ed l2;have m3:=Ed l3;have m4:=Ed l4;have m5:=Ed l5;have m6:=Ed l6;refine Ac func80 ntmps80 rfl rfl ?_;refine cS (eA [_,_,_,_] ?_);intro cb cc a ab cd ce;revert hP X;refine eE ab ?_;intro hP X;refine cN (C1 Mv (C1 Pn (C1 Pf (C1 (Pl (PP.blk hP)) ?_))));refine eK ?_;refine B9 Ad rfl rfl rfl rfl Ae h2 ?_;rintro cf ac p;have ad:=p.size;have a:=a.fr p Ab;clear hP;have X:=X.fr p Ab;refine eK ?_;refine cC rfl (C2 _ _ _ _ Ae AY Ae) ?_;rintro _ ae ⟨⟨⟩,⟨af,u⟩⟩;have ag:=u.size;revert a X;refine eF u ?_;intro a X;refine eK ?_;refine cC rfl (G9 _ _ _ Ae) ?_;rintro _ ah ⟨⟨⟩,⟨ai,v⟩⟩;have aj:=v.size;revert a X;refine eF v ?_;intro a X;refine eK ?_;refine cC rfl (CT _ _ _ _ Ae AY) ?_;rintro _ ak ⟨⟨⟩,⟨al,x⟩⟩;have am:=x.size;revert a X;refine eF x ?_;intro a X;refine eK ?_;refine eQ rfl ((Ej c k).expr _ _ _ Ae Ab AY AY) ?_;rintro _ an ⟨ao,⟨ap,⟨⟨⟩,⟨d,⟨y,z⟩⟩⟩⟩⟩;have aq:=z.size;revert a X;refine eF z ?_;intro a X;refine xA [_,_,_,_] ?_;intro ar au N;refine eI [_,_,_,_] N ?_;intro av e O aw ax;revert d y a X;refine eE O ?_;intro d y a X
 refine eK ?_;refine eQ rfl ((IH k (cH _)).block _ _ Ae Ab) ?_;rintro _ ay ⟨az,⟨a0,⟨⟨⟩,⟨f,⟨A,C⟩⟩⟩⟩⟩;revert e d;refine eZ C ?_;intro a1 e d;revert a X;refine eF C ?_;intro a X;refine xA [_,_,_,_] ?_;intro a2 a3 Q;refine eI [_,_,_,_] Q ?_;intro a4 g R a5 a6;revert f A e d a X;refine eE R ?_;intro f A e d a X;refine eK ?_;refine cC rfl (CT _ _ _ _ Ae AY) ?_;rintro _ a7 ⟨⟨⟩,⟨a8,D⟩⟩;revert g f;refine eZ D ?_;intro a9 g f;revert e d a X;refine eF D ?_;intro e d a X;refine eK ?_;refine eQ rfl ((Ej c k).expr _ _ _ Ae Ab AY AY) ?_;rintro _ ba ⟨bb,⟨bc,⟨⟨⟩,⟨i,⟨l,E⟩⟩⟩⟩⟩;have bd:=E.size;revert g f e d a X;refine eF E ?_;intro g f e d a X;refine xA [_,_,_,_] ?_;intro be bf S;refine eI [_,_,_,_] S ?_;intro bg m T bh bi;revert i l g f e d a X;refine eE T ?_;intro i l g f e d a X;refine eK ?_;refine AC (xS [_,_,_,_,_,_,_,_,_,_,_,_]) rfl ?_ aFh;rintro _ bj ⟨bk,rfl,o,bl⟩;have F:=o.blk;have U:=o.ext;have bm:=o.pos;have bn:=o.size;revert m i l g f e d a X;refine eE U ?_;intro m i l g f e d a X;refine C1 (xB [_,_,_,_]) (eS [_,_,_,_] a ?_);intro bo V W bp;revert F m i l g f e d X;refine eF W ?_;intro F m i l g f e d X;refine eK ?_;refine xC V ?_
 exact A4 (Y9 Ae Ab Ae (fun b h=>by omega) Ae (fun b h=>by omega) Ae (fun b h=>by omega)) Ae X
def Zj (c:PC) (k:Nat) (IH : ∀j,j<=k->StmtsC c j) (σ:PS) (w:wD) (F:PP c σ w) (hk:4*mS c.ts σ+6<=k+1) :
 Calls prog 44 #[.pointer (some ⟨c.pb,0,none⟩)] w (TreeR c w (CH c.ts c.n (k+1) σ)):=by
 have X:=fC (· = c.pb) w;have fp:=F.pbB;have hB:=F.B;have G : ∀t:lB,(AJ c.ts σ).text=t->t≠[]->In c.ts σ:=fun t h ht=>DO F.at_ (bW (by rw [h];exact ht))
 have L:=bU G;clear G;rw [CH];by_cases e0:(AJ c.ts σ).text=[112,117,115,104]
 . rw [AG e0];have G:=L.out _ e0 AY;refine Ac func44 ntmps44 rfl rfl ?_;refine cS (eA [_,_,_,_] ?_);intro b1 w2 h5 x6 p7 z8;revert F X;refine eE x6 ?_;intro F X;refine eK ?_;refine cC rfl (BE _ _ _ Ae) ?_;rintro _ fq ⟨⟨⟩,x9⟩;revert h5 F X;refine eY x9 ?_;intro fs h5 F X;refine C1 (Bn Ad rfl rfl rfl rfl rfl rfl) ?_;refine eK ?_;refine eQ rfl (KV c k 44 _ _ Ae G Ab) ?_;rintro _ ft ⟨fu,⟨fv,⟨⟨⟩,⟨bf,⟨bg,bd⟩⟩⟩⟩⟩;have fw:=bd.size;have h5:=h5.fr bd Ab;clear F;have X:=X.fr bd Ab;refine eS [_,_,_,_] h5 ?_;intro fx b5 f21 z22;revert bf bg X;refine eF f21 ?_;intro bf bg X;refine eK ?_;refine xC b5 ?_;exact A4 (eX Ae (fun b h=>by omega)) Ae X
 rw [As e0];by_cases e1:(AJ c.ts σ).text=[112,111,112]
 . rw [AG e1];have G:=L.out _ e1 AY;refine Ac func44 ntmps44 rfl rfl ?_;refine cS (eA [_,_,_,_] ?_);intro fy fz M b6 f0 f1;revert F X;refine eE b6 ?_;intro F X;refine eK ?_;refine cC rfl (BE _ _ _ Ae) ?_;rintro _ ct ⟨⟨⟩,b7⟩;revert M F X;refine eY b7 ?_;intro cu M F X;refine C1 (Bn Ad rfl rfl rfl rfl rfl rfl) ?_;refine eK ?_;refine eQ rfl (KV c k 45 _ _ Ae G Ab) ?_;rintro _ cv ⟨cw,⟨cx,⟨⟨⟩,⟨ap,⟨aq,N⟩⟩⟩⟩⟩;have cy:=N.size;have M:=M.fr N Ab;clear F;have X:=X.fr N Ab;refine eS [_,_,_,_] M ?_;intro cz bh bi c0;revert ap aq X;refine eF bi ?_;intro ap aq X;refine eK ?_;refine xC bh ?_;exact A4 (eX Ae (fun b h=>by omega)) Ae X
 rw [As e1];by_cases e2:(AJ c.ts σ).text=[114,101,97,100]
 . rw [AG e2];have G:=L.out _ e2 AY;refine Ac func44 ntmps44 rfl rfl ?_;refine cS (eA [_,_,_,_] ?_);intro f2 f3 O b8 f4 f5;revert F X;refine eE b8 ?_;intro F X;refine eK ?_;refine cC rfl (BE _ _ _ Ae) ?_;rintro _ c1 ⟨⟨⟩,b9⟩;revert O F X;refine eY b9 ?_;intro c2 O F X;refine C1 (Bn Ad rfl rfl rfl rfl rfl rfl) ?_;refine eK ?_;refine eQ rfl (Hc c k 46 _ _ Ae G Ab) ?_;rintro _ c3 ⟨c4,⟨c5,⟨⟨⟩,⟨ar,⟨au,U⟩⟩⟩⟩⟩;have c6:=U.size;have O:=O.fr U Ab;clear F;have X:=X.fr U Ab;refine eS [_,_,_,_] O ?_;intro c7 bj bk c8;revert ar au X;refine eF bk ?_;intro ar au X;refine eK ?_;refine xC bj ?_;exact A4 (eX Ae (fun b h=>by omega)) Ae X
 rw [As e2];by_cases e3:(AJ c.ts σ).text=[117,110,114,101,97,100]
 . rw [AG e3];have G:=L.out _ e3 AY;refine Ac func44 ntmps44 rfl rfl ?_;refine cS (eA [_,_,_,_] ?_);intro f6 f7 V ca f8 f9;revert F X;refine eE ca ?_;intro F X;refine eK ?_;refine cC rfl (BE _ _ _ Ae) ?_;rintro _ c9 ⟨⟨⟩,cb⟩;revert V F X;refine eY cb ?_;intro da V F X;refine C1 (Bn Ad rfl rfl rfl rfl rfl rfl) ?_;refine eK ?_;refine eQ rfl (Hc c k 47 _ _ Ae G Ab) ?_;rintro _ db ⟨dc,⟨dd,⟨⟨⟩,⟨av,⟨aw,Y⟩⟩⟩⟩⟩;have de:=Y.size;have V:=V.fr Y Ab;clear F;have X:=X.fr Y Ab;refine eS [_,_,_,_] V ?_;intro df bl bm dg;revert av aw X;refine eF bm ?_;intro av aw X;refine eK ?_;refine xC bl ?_;exact A4 (eX Ae (fun b h=>by omega)) Ae X
 rw [As e3];by_cases e4:(AJ c.ts σ).text=[119,114,105,116,101]
 . rw [AG e4];have G:=L.out _ e4 AY;refine Ac func44 ntmps44 rfl rfl ?_;refine cS (eA [_,_,_,_] ?_);intro ga gb Z cc gc gd;revert F X;refine eE cc ?_;intro F X;refine eK ?_;refine cC rfl (BE _ _ _ Ae) ?_;rintro _ dh ⟨⟨⟩,cd⟩;revert Z F X;refine eY cd ?_;intro di Z F X;refine C1 (Bn Ad rfl rfl rfl rfl rfl rfl) ?_;refine eK ?_;refine eQ rfl (Hc c k 48 _ _ Ae G Ab) ?_;rintro _ dk ⟨dl,⟨dm,⟨⟨⟩,⟨ax,⟨ay,aa⟩⟩⟩⟩⟩;have dn:=aa.size;have Z:=Z.fr aa Ab;clear F;have X:=X.fr aa Ab;refine eS [_,_,_,_] Z ?_;intro dp bn bo dq;revert ax ay X;refine eF bo ?_;intro ax ay X;refine eK ?_;refine xC bn ?_;exact A4 (eX Ae (fun b h=>by omega)) Ae X
 rw [As e4];by_cases e5:(AJ c.ts σ).text=[117,110,119,114,105,116,101]
 . rw [AG e5];have G:=L.out _ e5 AY;refine Ac func44 ntmps44 rfl rfl ?_;refine cS (eA [_,_,_,_] ?_);intro gf gg ab ce gh gi;revert F X;refine eE ce ?_;intro F X;refine eK ?_;refine cC rfl (BE _ _ _ Ae) ?_;rintro _ dr ⟨⟨⟩,cf⟩;revert ab F X;refine eY cf ?_;intro ds ab F X;refine C1 (Bn Ad rfl rfl rfl rfl rfl rfl) ?_;refine eK ?_;refine eQ rfl (Hc c k 49 _ _ Ae G Ab) ?_;rintro _ dt ⟨du,⟨dv,⟨⟨⟩,⟨az,⟨a0,ac⟩⟩⟩⟩⟩;have dw:=ac.size;have ab:=ab.fr ac Ab;clear F;have X:=X.fr ac Ab;refine eS [_,_,_,_] ab ?_;intro dx bp bq dy;revert az a0 X;refine eF bq ?_;intro az a0 X;refine eK ?_;refine xC bp ?_;exact A4 (eX Ae (fun b h=>by omega)) Ae X
 rw [As e5];by_cases e6:(AJ c.ts σ).text=[99,97,108,108]
 . rw [AG e6];have G:=L.out _ e6 AY;refine Ac func44 ntmps44 rfl rfl ?_;refine cS (eA [_,_,_,_] ?_);intro gj gk ad cg gl gm;revert F X;refine eE cg ?_;intro F X;refine eK ?_;refine cC rfl (BE _ _ _ Ae) ?_;rintro _ dz ⟨⟨⟩,ch⟩;revert ad F X;refine eY ch ?_;intro d0 ad F X;refine C1 (Bn Ad rfl rfl rfl rfl rfl rfl) ?_;refine eK ?_;refine eQ rfl (L1 c k 50 _ _ Ae G Ab) ?_;rintro _ d1 ⟨d2,⟨d3,⟨⟨⟩,⟨a1,⟨a2,ae⟩⟩⟩⟩⟩;have d4:=ae.size;have ad:=ad.fr ae Ab;clear F;have X:=X.fr ae Ab;refine eS [_,_,_,_] ad ?_;intro d5 br bs d6;revert a1 a2 X;refine eF bs ?_;intro a1 a2 X;refine eK ?_;refine xC br ?_;exact A4 (eX Ae (fun b h=>by omega)) Ae X
 rw [As e6];by_cases e7:(AJ c.ts σ).text=[117,110,99,97,108,108]
 . rw [AG e7];have G:=L.out _ e7 AY;refine Ac func44 ntmps44 rfl rfl ?_;refine cS (eA [_,_,_,_] ?_);intro gn go af ci gp gq;revert F X;refine eE ci ?_;intro F X;refine eK ?_;refine cC rfl (BE _ _ _ Ae) ?_;rintro _ d7 ⟨⟨⟩,cj⟩;revert af F X;refine eY cj ?_;intro d8 af F X;refine C1 (Bn Ad rfl rfl rfl rfl rfl rfl) ?_;refine eK ?_;refine eQ rfl (L1 c k 51 _ _ Ae G Ab) ?_;rintro _ d9 ⟨ea,⟨eb,⟨⟨⟩,⟨a3,⟨a4,ag⟩⟩⟩⟩⟩;have ec:=ag.size;have af:=af.fr ag Ab;clear F;have X:=X.fr ag Ab;refine eS [_,_,_,_] af ?_;intro ed bt bu ee;revert a3 a4 X;refine eF bu ?_;intro a3 a4 X;refine eK ?_;refine xC bt ?_;exact A4 (eX Ae (fun b h=>by omega)) Ae X
 rw [As e7];by_cases e8:(AJ c.ts σ).text=[105,102]
 . rw [AG e8];have G:=L.out _ e8 AY;refine Ac func44 ntmps44 rfl rfl ?_;refine cS (eA [_,_,_,_] ?_);intro gr gs ah ck gt gu;revert F X;refine eE ck ?_;intro F X;refine eK ?_;refine cC rfl (BE _ _ _ Ae) ?_;rintro _ ef ⟨⟨⟩,cl⟩;revert ah F X;refine eY cl ?_;intro eg ah F X;refine C1 (Bn Ad rfl rfl rfl rfl rfl rfl) ?_;refine eK ?_;refine eQ rfl ((IH k (cH _)).branches 52 _ _ _ _ Ae G AY AY Ab) ?_;rintro _ eh ⟨ei,⟨ej,⟨⟨⟩,⟨a5,⟨a6,ai⟩⟩⟩⟩⟩;have ek:=ai.size;have ah:=ah.fr ai Ab;clear F;have X:=X.fr ai Ab;refine eS [_,_,_,_] ah ?_;intro el bv bw em;revert a5 a6 X;refine eF bw ?_;intro a5 a6 X;refine eK ?_;refine xC bv ?_;exact A4 (eX Ae (fun b h=>by omega)) Ae X
 rw [As e8];by_cases e9:(AJ c.ts σ).text=[102,114,111,109]
 . rw [AG e9];have G:=L.out _ e9 AY;refine Ac func44 ntmps44 rfl rfl ?_;refine cS (eA [_,_,_,_] ?_);intro gv gw aj cm gx gy;revert F X;refine eE cm ?_;intro F X;refine eK ?_;refine cC rfl (BE _ _ _ Ae) ?_;rintro _ en ⟨⟨⟩,cn⟩;revert aj F X;refine eY cn ?_;intro eo aj F X;refine C1 (Bn Ad rfl rfl rfl rfl rfl rfl) ?_;refine eK ?_;refine eQ rfl ((IH k (cH _)).branches 53 _ _ _ _ Ae G AY AY Ab) ?_;rintro _ ep ⟨er,⟨es,⟨⟨⟩,⟨a7,⟨a8,ak⟩⟩⟩⟩⟩;have et:=ak.size;have aj:=aj.fr ak Ab;clear F;have X:=X.fr ak Ab;refine eS [_,_,_,_] aj ?_;intro eu bx bz ew;revert a7 a8 X;refine eF bz ?_;intro a7 a8 X;refine eK ?_;refine xC bx ?_;exact A4 (eX Ae (fun b h=>by omega)) Ae X
 rw [As e9];by_cases be:(AJ c.ts σ).text=[108,111,99,97,108]
 . rw [AG be];have G:=L.out _ be AY;refine Ac func44 ntmps44 rfl rfl ?_;refine cS (eA [_,_,_,_] ?_);intro gz g0 al co g1 g2;revert F X;refine eE co ?_;intro F X;refine eK ?_;refine cC rfl (BE _ _ _ Ae) ?_;rintro _ ex ⟨⟨⟩,cp⟩;revert al F X;refine eY cp ?_;intro ey al F X;refine C1 (Bn Ad rfl rfl rfl rfl rfl rfl) ?_;refine eK ?_;refine eQ rfl ((IH k (cH _)).local_ _ _ Ae G Ab) ?_;rintro _ ez ⟨fa,⟨fb,⟨⟨⟩,⟨a9,⟨ba,am⟩⟩⟩⟩⟩;have fc:=am.size;have al:=al.fr am Ab;clear F;have X:=X.fr am Ab;refine eS [_,_,_,_] al ?_;intro fd b0 b2 fe;revert a9 ba X;refine eF b2 ?_;intro a9 ba X;refine eK ?_;refine xC b0 ?_;exact A4 (eX Ae (fun b h=>by omega)) Ae X
 rw [As be];refine Ac func44 ntmps44 rfl rfl ?_;refine cS (eA [_,_,_,_] ?_);intro g3 g4 an cq g5 g6;revert F X;refine eE cq ?_;intro F X;refine eK ?_;refine cC rfl (BE _ _ _ Ae) ?_;rintro _ ff ⟨⟨⟩,cr⟩;revert an F X;refine eY cr ?_;intro fg an F X;refine C1 (Bn Ad rfl rfl rfl rfl rfl rfl) ?_;refine eK ?_;refine eQ rfl (VL c k _ _ Ae Ab) ?_;rintro _ fh ⟨fj,⟨fk,⟨⟨⟩,⟨bb,⟨bc,ao⟩⟩⟩⟩⟩;have fl:=ao.size;have an:=an.fr ao Ab;clear F;have X:=X.fr ao Ab;refine eS [_,_,_,_] an ?_;intro fm b3 b4 fo;revert bb bc X;refine eF b4 ?_;intro bb bc X;refine eK ?_;refine xC b3 ?_;exact A4 (eX Ae (fun b h=>by omega)) Ae X
end Bk
