/- Texts that the proofs of GradebookAll need. No condition. (Part 4 of 6.) -/
import Derived.Test.YteiiipaobncfgaaGreatPGam3
set_option linter.unusedSimpArgs false
set_option linter.unusedVariables false
set_option linter.defProp false
set_option maxRecDepth 100000
set_option maxHeartbeats 4000000
open Go.Proofs.Tryz
open Or renaming inl->iG,inr->iH
open Go.Result renaming andThen->iP
open Except renaming bind->i6
open Go renaming Calls->i9
open Go.Value renaming slice->jf,int->jz,ownBlock->km
open Nat renaming blt->jg,ble->jW,beq->ke
open Go.Region renaming ready->jj,binds->jN
open List renaming replicate->jn,range->jQ
open Go.Builtin renaming zeroCells->jG
open Go.IntKind renaming wrap->jP
open Array renaming replicate->jZ
open Go.Oper renaming wp->kh
open Go.Addr renaming add->ki
open Go.Sem renaming run->kG
open Bk.Stp renaming transfer->mP,setCur->mV,items->m6,move->nh,leaves->nj,enters->nr
open Bk.Value renaming one->mW
open Bk.Nd renaming isPlace->mX,name->mZ,kind->m7
namespace Bk
open Go Go.RowKit Go.Proofs
attribute [local irreducible] Go.Calls
variable {n m c sb i:Nat} {xs:List Int} {w w':wD} {κ:Nat->Nat} {v:Value} {k u:Int} {l:List Nd} {ty:TypeId} {P:Program} {st:Stp} {e:Ending} {s:lB} {cs:lV} {t:Nd} {ps:List VD} {S:nP} {x:Operand} {α:Type} {f:Frm} {r:Rn} {M:oA} {sE:Sk}
inductive Rl where
 | none|cell (i:Nat)|items (i:Nat)|vars (j:Nat)|cels (j:Nat)|calls|store|tape|tin|tout|other (k:Nat)
 deriving DecidableEq
variable {ρ:Nat->Rl} {g b sz:Nat} {ys:List Int} {vv:Value} {T:TypeId} {y:Operand} {us:lV} {w1:wD} {st:Stp} {β:Type} {M:oA} {G:Rn}
def Ro (ρ ρ':Nat->Rl) (w:wD):Prop:= ∀b,b<w.heap.size->ρ' b=ρ b
def Ro.refl (ρ:Nat->Rl) (w:wD):Ro ρ ρ w:=λ_ _=>rfl
def Ro.trans {ρ ρ' G:Nat->Rl} {w w':wD} (h:Ro ρ ρ' w) (M:Ro ρ' G w') (O:w.heap.size<=w'.heap.size):Ro ρ G w:=λb N=>(M b Ab).trans (h b N)
def OwnR (ρ:Nat->Rl) (r:Rl) (w:wD) (v:Value) (xs:List Int):Prop:=OwnI w 0 v xs /\ ∀k,v.ownBlock=some k->ρ k=r
def OwnR.ext {ρ:Nat->Rl} {r:Rl} {w w':wD} {v:Value} {xs:List Int} (h:OwnR ρ r w v xs) (x:Ext w w'):OwnR ρ r w' v xs:=⟨h.1.ext x,h.2⟩
instance {r:Rl}:LfE w w' (OwnR ρ r w v xs) (OwnR ρ r w' v xs):=⟨λx h=>Bk.OwnR.ext h x⟩
def OwnR.fr {ρ:Nat->Rl} {r:Rl} {S:nP} {w w':wD} {v:Value} {xs:List Int} (h:OwnR ρ r w v xs) (x:Fr S w w') (G:∀k,S k->ρ k≠r):OwnR ρ r w' v xs:=
 ⟨h.1.fr x (λk M N=>G k N (h.2 k M)),h.2⟩
instance {r:Rl}:LfF S w w' (OwnR ρ r w v xs) (∀k,S k->ρ k≠r) (OwnR ρ r w' v xs):=⟨λx s h=>Bk.OwnR.fr h x s⟩
def OwnR.ro {ρ':Nat->Rl} {r:Rl} (h:OwnR ρ r w v xs) (x:Ro ρ ρ' w') (M:w.heap.size<=w'.heap.size):OwnR ρ' r w v xs:=
 ⟨h.1,λk G=>by have:=(h.1.lt G).2;rw [x k Ab];exact h.2 k G⟩
def OwnR.ro' {ρ':Nat->Rl} {r:Rl} (h:OwnR ρ r w' v xs) (x:Ro ρ ρ' w) (M:∀k,v.ownBlock=some k->k<w.heap.size):OwnR ρ' r w' v xs:=
 ⟨h.1,λk G=>by rw [x k (M k G)];exact h.2 k G⟩
structure TapeAt (ρ:Nat->Rl) (w:wD) (tb:Nat) (ti to:List Int):Prop where
 role:ρ tb = .tape
 blk:∃vi vo,Blk w tb [vi,vo]/\OwnR ρ .tin w vi ti/\OwnR ρ .tout w vo to
 li:ti.length<=4096
 lo:to.length<=4096
def TapeAt.ext {ρ:Nat->Rl} {w w':wD} {tb:Nat} {ti to:List Int} (h:TapeAt ρ w tb ti to) (x:Ext w w'):TapeAt ρ w' tb ti to:=by
 obtain ⟨G,M,N,O,U⟩:=h.blk;exact ⟨h.role,⟨G,M,N.ext x,O.ext x,U.ext x⟩,h.li,h.lo⟩
instance {tb:Nat} {ti to:List Int}:LfE w w' (TapeAt ρ w tb ti to) (TapeAt ρ w' tb ti to):=⟨λx h=>Bk.TapeAt.ext h x⟩
def TapeAt.ro {ρ ρ':Nat->Rl} {w w0:wD} {tb:Nat} {ti to:List Int} (h:TapeAt ρ w tb ti to) (x:Ro ρ ρ' w0) (G:w.heap.size<=w0.heap.size):TapeAt ρ' w tb ti to:=by
 obtain ⟨N,O,M,U,V⟩:=h.blk;exact ⟨by rw [x tb (by have:=M.lt;omega)];exact h.role,⟨N,O,M,U.ro x G,V.ro x G⟩,h.li,h.lo⟩
def BY (ρ:Nat->Rl) (b:Nat):Prop:=ρ b = .tape\/ρ b = .tin\/ρ b = .tout
def I4 (ρ:Nat->Rl) (w:wD) (r:Rl):Nat->Rl:=λb=>if b<w.heap.size then ρ b else r
def Dn (ρ:Nat->Rl) (w:wD) (r:Rl):Ro ρ (I4 ρ w r) w:=λb h=>by unfold I4;rw [AG h]
def VE (ρ:Nat->Rl) (w:wD) (r:Rl) (h:w.heap.size<=b):I4 ρ w r b=r:=by unfold I4;rw [At Ab]
def PutR.own {r:Rl} {N:wD} (h:OwnI N 0 vv ys) (O:∀k,v.ownBlock=some k->ρ k=r/\k<w.heap.size) (U:∀k,vv.ownBlock=some k->v.ownBlock=some k\/w.heap.size<=k):OwnR (I4 ρ w r) r N vv ys:=by
 refine ⟨h,λk V=>?_⟩;rcases U k V with M|M
 . obtain ⟨X,Y⟩:=O k M;unfold I4;rw [AG Y];exact X
 . exact VE _ _ _ M
def TapeR (ρ:Nat->Rl) (tb:Nat) (ti to:List Int) (r:Value) (w:wD):Ending->wD->Prop:=λe w'=> ∃ ρ',e = .returned r/\Ro ρ ρ' w/\TapeAt ρ' w' tb ti to/\Fr (BY ρ) w w'
def TapeR.ret {tb:Nat} {ti to:List Int} {r:Value} (h:TapeR ρ tb ti to r w e w'):∃v,e = .returned v:=by
 obtain ⟨_,h,-⟩:=h;exact ⟨_,h⟩
def ZC (ρ:Nat->Rl) (tb:Nat) (ti to:List Int) (i x:Int) (w:wD) (h:TapeAt ρ w tb ti to) (M:ti.length=4096) :
 Calls prog 243 #[pt tb,.int .i64 i,.int .i64 x] w (TapeR ρ tb ti to (.int .i64 5) w):=by
 obtain ⟨N,O,U,G,V⟩:=h.blk;obtain ⟨a,c,rfl⟩:=G.1.shape;refine Ad func243 ntmps243 rfl rfl (kR ?_);exact ⟨ρ,rfl,Ro.refl _ _,Ae,mI _ _⟩
def ZD (ρ:Nat->Rl) (tb:Nat) (ti to:List Int) (i x:Int) (w:wD) (h:TapeAt ρ w tb ti to) (M:to.length=4096) :
 Calls prog 243 #[.pointer (some ⟨tb,0+1,none⟩),.int .i64 i,.int .i64 x] w (TapeR ρ tb ti to (.int .i64 5) w):=by
 obtain ⟨N,O,U,V,G⟩:=h.blk;obtain ⟨a,c,rfl⟩:=G.1.shape;refine Ad func243 ntmps243 rfl rfl (kR ?_);exact ⟨ρ,rfl,Ro.refl _ _,Ae,mI _ _⟩
def ZE (ρ:Nat->Rl) (tb:Nat) (ti to:List Int) (x:Int) (w:wD) (h:TapeAt ρ w tb ti to) (hf:ti.length<4096) :
 Calls prog 243 #[pt tb,.int .i64 0,.int .i64 x] w (TapeR ρ tb (x::ti) to (.int .i64 0) w):=by
 obtain ⟨vi,vo,hb,hi,N⟩:=h.blk;have M:=h.role;have ae:=h.lo;have am:=h.li;have af:=hb.lt;have ag:=λk O=>(N.1.lt (k:=k) O).2
 obtain ⟨a,c,rfl⟩:=hi.1.shape;have G:=λk O=>And.intro (hi.2 k O) (hi.1.lt O).2
 obtain ⟨aa,an⟩:=hi;have F:=mI (BY ρ) w;have U:∀(V:Nat) (w1:wD),OwnI w1 0 (.slice a ti.length c) ti->Blk w1 V [.int .i64 x]->w.heap.size<=V->Calls prog 247 #[.slice a ti.length c,.int .i64 0,.slice (some ⟨V,0,none⟩) 1 1] w1 (PutR (.slice a ti.length c) (x::ti) 0 w1):=λV w1 h1 h2 h3=>by
  by_cases ab:ti=[]
  . subst ab;have:=Mq [] AN 0 _ x V w1 (iT _) h1 h2.row;simpa using this
  . exact SH ti Ab ab 0 _ x V w1 (iT _) h1 h2 (λe=>by have:=G V e;omega)
 have U:=iF U;have ac:¬(jf a ti.length c).ownBlock=some tb:=λe=>by have:=(G _ e).1;rw [M] at this;cases this
 have ah:∀k,(jf a ti.length c).ownBlock=some k->ρ k≠.tout:=λk e=>by have:=(G _ e).1;rw [this];exact λh=>by cases h
 have ai:∀k,(jf a ti.length c).ownBlock=some k->BY ρ k\/w.heap.size<=k:=λk e=>iG (iH (iG (G k e).1))
 have aj:∀k,k=tb->BY ρ k\/w.heap.size<=k:=λk e=>iG (iG (by rw [e];exact M))
 have ak:∀k,k=tb->ρ k≠.tout:=λk e=>by rw [e,M];exact λh=>by cases h
 refine Ad func243 ntmps243 rfl rfl (eK ?_);refine Aw (xS [_]) rfl ?_ aFh;rintro _ w2 ⟨b1,rfl,n3,t4⟩;have h5:=n3.blk;have x6:=n3.ext;have p7:=n3.pos;have z8:=n3.size;revert N hb aa F;refine eE x6 ?_;intro N hb aa F;refine eQ rfl (U.out _ _ Ae Ae Ab) ?_;rintro _ ao ⟨a9,ap,⟨⟩,X,ad,Y⟩;have N:=OwnR.fr N Y (ah);have hb:=mH hb Y (ac);have F:=mL F Y (ai);refine C1 Pn (eV [_] [_,_] hb ?_);intro aq al Z _;have X:=nx X Z (λk O e=>by subst e;rcases ad _ O with h|h;exact ac h;omega);have N:=OwnR.fr N Z (ak);have F:=mL F Z (aj);refine kR ?_;exact ⟨I4 ρ w .tin,rfl,Dn _ _ _,⟨by rw [Dn ρ w .tin tb af];exact M,⟨_,_,al,PutR.own X G (λk O=>(ad k O).imp id (λh=>by omega)),N.ro' (Dn _ _ _) ag⟩,by simp;omega,ae⟩,F⟩
def ZF (ρ:Nat->Rl) (tb:Nat) (ti to:List Int) (x:Int) (w:wD) (h:TapeAt ρ w tb ti to) (hf:to.length<4096) :
 Calls prog 243 #[.pointer (some ⟨tb,0+1,none⟩),.int .i64 to.length,.int .i64 x] w (TapeR ρ tb ti (to++[x]) (.int .i64 0) w):=by
 obtain ⟨vi,vo,Y,N,ho⟩:=h.blk;have G:=h.role;have ac:=h.li;have ad:=Y.lt;have ae:=λk O=>(N.1.lt (k:=k) O).2
 obtain ⟨a,c,rfl⟩:=ho.1.shape;have M:=λk O=>And.intro (ho.2 k O) (ho.1.lt O).2
 obtain ⟨Z,ak⟩:=ho;have F:=mI (BY ρ) w;have aa:¬(jf a to.length c).ownBlock=some tb:=λe=>by have:=(M _ e).1;rw [G] at this;cases this
 have af:∀k,(jf a to.length c).ownBlock=some k->ρ k≠.tin:=λk e=>by have:=(M _ e).1;rw [this];exact λh=>by cases h
 have ag:∀k,(jf a to.length c).ownBlock=some k->BY ρ k\/w.heap.size<=k:=λk e=>iG (iH (iH (M k e).1))
 have ah:∀k,k=tb->BY ρ k\/w.heap.size<=k:=λk e=>iG (iG (by rw [e];exact G))
 have ai:∀k,k=tb->ρ k≠.tin:=λk e=>by rw [e,G];exact λh=>by cases h
 refine Ad func243 ntmps243 rfl rfl (eK ?_);refine Aw (xS [_]) rfl ?_ aFh;rintro _ w2 ⟨b1,rfl,n3,t4⟩;have h5:=n3.blk;have x6:=n3.ext;have p7:=n3.pos;have z8:=n3.size;revert N Y Z F;refine eE x6 ?_;intro N Y Z F;refine eQ rfl (Mq to Ab 0 _ x _ _ (iT _) Ae (mS Ae)) ?_;rintro _ al ⟨a9,am,⟨⟩,U,ab,V⟩;have N:=OwnR.fr N V (af);have Y:=mH Y V (aa);have F:=mL F V (ag);refine C1 Pn (eV [_] [_,_] Y ?_);intro an aj X _;have U:=nx U X (λk O e=>by subst e;rcases ab _ O with h|h;exact aa h;omega);have N:=OwnR.fr N X (ai);have F:=mL F X (ah);refine kR ?_;exact ⟨I4 ρ w .tout,rfl,Dn _ _ _,⟨by rw [Dn ρ w .tout tb ad];exact G,⟨_,_,aj,N.ro' (Dn _ _ _) ae,PutR.own U M (λk O=>(ab k O).imp id (λh=>by omega))⟩,ac,by simp;omega⟩,F⟩
def ZG (ρ:Nat->Rl) (tb:Nat) (to:List Int) (i:Int) (w:wD) (h:TapeAt ρ w tb [] to) :
 Calls prog 242 #[pt tb,.int .i64 i] w (TapeR ρ tb [] to (.tuple #[.int .i64 0,.int .i64 17]) w):=by
 obtain ⟨M,N,O,G,U⟩:=h.blk;obtain ⟨a,c,rfl⟩:=G.1.shape;refine Ad func242 ntmps242 rfl rfl (kT ?_);exact ⟨ρ,rfl,Ro.refl _ _,Ae,mI _ _⟩
def ZH (ρ:Nat->Rl) (tb:Nat) (ti:List Int) (i:Int) (w:wD) (h:TapeAt ρ w tb ti []) :
 Calls prog 242 #[.pointer (some ⟨tb,0+1,none⟩),.int .i64 i] w (TapeR ρ tb ti [] (.tuple #[.int .i64 0,.int .i64 17]) w):=by
 obtain ⟨M,N,O,U,G⟩:=h.blk;obtain ⟨a,c,rfl⟩:=G.1.shape;refine Ad func242 ntmps242 rfl rfl (kT ?_);exact ⟨ρ,rfl,Ro.refl _ _,Ae,mI _ _⟩
def ZI (ρ:Nat->Rl) (tb:Nat) (x:Int) (ti to:List Int) (w:World) (h:TapeAt ρ w tb (x::ti) to) :
 Calls prog 242 #[pt tb,.int .i64 0] w (TapeR ρ tb ti to (.tuple #[.int .i64 x,.int .i64 0]) w):=by
 obtain ⟨vi,vo,O,Z,X⟩:=h.blk;have G:=h.role;have aa:=h.lo;have aj:=h.li;have ab:=O.lt
 have ac:=λk N=>(X.1.lt (k:=k) N).2
 obtain ⟨a,c,rfl⟩:=Z.1.shape
 have M:=λk N=>And.intro (Z.2 k N) (Z.1.lt N).2
 obtain ⟨ad,ak⟩:=Z;have F:=mI (BY ρ) w
 have Y:¬(jf a (x::ti).length c).ownBlock=some tb:=λe=>by have:=(M _ e).1;rw [G] at this;cases this
 have ae:∀k,(jf a (x::ti).length c).ownBlock=some k->ρ k≠.tout:=λk e=>by have:=(M _ e).1;rw [this];exact λh=>by cases h
 have af:∀k,(jf a (x::ti).length c).ownBlock=some k->BY ρ k\/w.heap.size<=k:=λk e=>iG (iH (iG (M k e).1))
 have ag:∀k,k=tb->BY ρ k\/w.heap.size<=k:=λk e=>iG (iG (by rw [e];exact G))
 have ah:∀k,k=tb->ρ k≠.tout:=λk e=>by rw [e,G];exact λh=>by cases h
 have U:∀(w1:World),OwnI w1 0 (.slice a (x::ti).length c) (x::ti)->Calls prog 246 #[.slice a (x::ti).length c,.int .i64 0,.int .i64 (0+1)] w1 (PutR (.slice a (x::ti).length c) ti 0 w1):=λw1 h1=>by
  have:=Oc (x::ti) Ab 0 AN 0 _ w1 h1
  simpa using this
 replace U:=iF U
 have al:(x::ti).length=ti.length+1:=by simp
 obtain ⟨gb,go,rfl,hr⟩:=ad.at.get AN;have r1:=nI hr (i:=0) AN;rw [show (x::ti).getD 0 0=x from rfl] at r1;refine Ad func242 ntmps242 rfl rfl ?_
 refine cS (C1 Pa (C1 Pa (cT (Aj (cS (C1 Mv (C1 Pn (C1 (Pl O) (C1 Pz (C1 V1 (cT (DA (Ao (Ai (cS (C1 Mv (C1 Pn (C1 (Pl O) (C1 Mv (C1 Pi (C1 (Pw r1) (C1 Pa (cN (C1 Mv (C1 Mv (C1 Pn (C1 (Pl O) (C1 Mv (C1 Mv (C1 V7 (eQ rfl (U.out _ Ae) ?_)))))))))))))))))))))))))))))));rintro _ w6 ⟨a1,c2,⟨⟩,h3,h4,f5⟩;replace X:=OwnR.fr X f5 (ae);replace F:=mL F f5 (af);replace O:=mH O f5 (Y);refine C1 Pn (eV [_] [_,_] O ?_);intro w8 ai V _;replace h3:=nx h3 V (λk N e=>by subst e;rcases h4 _ N with h|h;exact Y h;omega);replace X:=OwnR.fr X V (ah);replace F:=mL F V (ag);refine cN (C1 Mv (C1 Pa (C1 Pa (cT (AR (Bc rfl rfl rfl ?_))))))
 exact ⟨I4 ρ w .tin,rfl,Dn _ _ _,⟨by rw [Dn ρ w .tin tb ab];exact G,⟨_,_,ai,PutR.own h3 M (λk N=>(h4 k N).imp id (λh=>by omega)),X.ro' (Dn _ _ _) ac⟩,Ab,aa⟩,F⟩
def ZJ (ρ:Nat->Rl) (tb:Nat) (x:Int) (ti ys:List Int) (w:wD) (h:TapeAt ρ w tb ti (ys++[x])) :
 Calls prog 242 #[.pointer (some ⟨tb,0+1,none⟩),.int .i64 (((ys++[x]).length:Int)-1)] w (TapeR ρ tb ti ys (.tuple #[.int .i64 x,.int .i64 0]) w):=by
 obtain ⟨vi,vo,Z,V,ho⟩:=h.blk;have G:=h.role;have aj:=h.lo;have aa:=h.li;have ab:=Z.lt;have ac:=λk N=>(V.1.lt (k:=k) N).2
 obtain ⟨a,c,rfl⟩:=ho.1.shape;have M:=λk N=>And.intro (ho.2 k N) (ho.1.lt N).2
 obtain ⟨ad,ak⟩:=ho;have F:=mI (BY ρ) w;have X:¬(jf a (ys++[x]).length c).ownBlock=some tb:=λe=>by have:=(M _ e).1;rw [G] at this;cases this
 have ae:∀k,(jf a (ys++[x]).length c).ownBlock=some k->ρ k≠.tin:=λk e=>by have:=(M _ e).1;rw [this];exact λh=>by cases h
 have af:∀k,(jf a (ys++[x]).length c).ownBlock=some k->BY ρ k\/w.heap.size<=k:=λk e=>iG (iH (iH (M k e).1))
 have ag:∀k,k=tb->BY ρ k\/w.heap.size<=k:=λk e=>iG (iG (by rw [e];exact G))
 have ah:∀k,k=tb->ρ k≠.tin:=λk e=>by rw [e,G];exact λh=>by cases h
 have Y:(ys++[x]).length=ys.length+1:=by simp
 have O:∀(w1:wD),OwnI w1 0 (.slice a (ys++[x]).length c) (ys++[x])->Calls prog 246 #[.slice a (ys++[x]).length c,.int .i64 (((ys++[x]).length:Int)-1),.int .i64 (((ys++[x]).length:Int)-1+1)] w1 (PutR (.slice a (ys++[x]).length c) ys 0 w1):=λw1 h1=>by
  have h9:=Oc (ys++[x]) Ab ys.length Ab 0 _ w1 h1;rw [show (ys++[x]).eraseIdx ys.length=ys by rw [List.eraseIdx_append_of_length_le (iW _)];simp] at h9;rw [Y] at h9 ⊢;rw [show (((ys.length+1:Nat):Int)-1)=(ys.length:Int) by omega];exact h9
 have O:=iF O;obtain ⟨gb,go,rfl,hr⟩:=ad.at.get AN;have r1:=nI hr (i:=(((ys++[x]).length:Int)-1).toNat) Ab;rw [show (ys++[x]).getD (((ys++[x]).length:Int)-1).toNat 0=x by rw [Y,show (((ys.length+1:Nat):Int)-1).toNat=ys.length by omega];simp] at r1;generalize al:(ys++[x]).length=LL at *;refine Ad func242 ntmps242 rfl rfl (kQ (O.out _ Ae) ?_);rintro _ w6 ⟨a1,c2,⟨⟩,h3,h4,f5⟩;have V:=OwnR.fr V f5 (ae);have F:=mL F f5 (af);have Z:=mH Z f5 (X);refine C1 Pn (eV [_] [_,_] Z ?_);intro w8 ai U _;have h3:=nx h3 U (λk N e=>by subst e;rcases h4 _ N with h|h;exact X h;omega);have V:=OwnR.fr V U (ah);have F:=mL F U (ag);refine kT ?_;exact ⟨I4 ρ w .tout,rfl,Dn _ _ _,⟨by rw [Dn ρ w .tout tb ab];exact G,⟨_,_,ai,V.ro' (Dn _ _ _) ac,PutR.own h3 M (λk N=>(h4 k N).imp id (λh=>by omega))⟩,aa,Ab⟩,F⟩
def Kn {l:Sl} {op:Op} (h:Br P n l (· = w) op ty v):BG P n l op ty w (λr w'=>match r with|some u=>u=v/\w=w'|none=>False):=by
 unfold BG;unfold Br at h;intro a dst pos after g next Q ha k k0;unfold kh;rw [h a w dst pos after g ha rfl];exact k v w ⟨rfl,rfl⟩
def Ro.low {ρ':Nat->Rl} (h:Ro ρ ρ' w') (G:w.heap.size<=w'.heap.size):Ro ρ ρ' w:=λb M=>h b Ab
def Xw (ρ:Nat->Rl) (tb:Nat) (to:List Int) (w:wD) (h:TapeAt ρ w tb [] to):Calls prog 235 #[pt tb] w (TapeR ρ tb [] to (.tuple #[.int .i64 0,.int .i64 17]) w):=by
 have F:=mI (BY ρ) w;have G:=iF (λw1 h=>ZG ρ tb to 0 w1 h);refine Ad func235 ntmps235 rfl rfl (eK ?_);refine C1 (A1 Ac rfl rfl) (kQ (G.out _ Ae) ?_);rintro _ U ⟨M,⟨⟩,V,X,N⟩;have F:=mL F N (λk O=>iG O);refine kT ?_;exact ⟨_,rfl,Ro.low Ae Ab,Ae,F⟩
def ZK (ρ:Nat->Rl) (tb:Nat) (x:Int) (ti to:List Int) (w:wD) (h:TapeAt ρ w tb (x::ti) to):Calls prog 235 #[pt tb] w (TapeR ρ tb ti to (.tuple #[.int .i64 x,.int .i64 0]) w):=by
 have F:=mI (BY ρ) w;have G:=iF (λw1 h=>ZI ρ tb x ti to w1 h);refine Ad func235 ntmps235 rfl rfl (eK ?_);refine C1 (A1 Ac rfl rfl) (kQ (G.out _ Ae) ?_);rintro _ U ⟨M,⟨⟩,V,X,N⟩;have F:=mL F N (λk O=>iG O);refine kT ?_;exact ⟨_,rfl,Ro.low Ae Ab,Ae,F⟩
def Te (ρ:Nat->Rl) (tb:Nat) (x:Int) (ti to:List Int) (w:wD) (h:TapeAt ρ w tb ti to) (G:ti.length=4096):Calls prog 236 #[pt tb,.int .i64 x] w (TapeR ρ tb ti to (.int .i64 5) w):=by
 have F:=mI (BY ρ) w;have M:=iF (λw1 h=>ZC ρ tb ti to 0 x w1 h G);refine Ad func236 ntmps236 rfl rfl (eK ?_);refine C1 (A1 Ac rfl rfl) (kQ (M.out _ Ae) ?_);rintro _ V ⟨N,⟨⟩,X,Y,O⟩;have F:=mL F O (λk U=>iG U);refine kR ?_;exact ⟨_,rfl,Ro.low Ae Ab,Ae,F⟩
def OA (ρ:Nat->Rl) (tb:Nat) (x:Int) (ti to:List Int) (w:wD) (h:TapeAt ρ w tb ti to) (G:ti.length<4096):Calls prog 236 #[pt tb,.int .i64 x] w (TapeR ρ tb (x::ti) to (.int .i64 0) w):=by
 have F:=mI (BY ρ) w;have M:=iF (λw1 h=>ZE ρ tb ti to x w1 h G);refine Ad func236 ntmps236 rfl rfl (eK ?_);refine C1 (A1 Ac rfl rfl) (kQ (M.out _ Ae) ?_);rintro _ V ⟨N,⟨⟩,X,Y,O⟩;have F:=mL F O (λk U=>iG U);refine kR ?_;exact ⟨_,rfl,Ro.low Ae Ab,Ae,F⟩
def Rw (ρ:Nat->Rl) (tb:Nat) (ti:List Int) (w:wD) (h:TapeAt ρ w tb ti []):Calls prog 237 #[pt tb] w (TapeR ρ tb ti [] (.tuple #[.int .i64 0,.int .i64 17]) w):=by
 have F:=mI (BY ρ) w;have O:=iF (λw1 h=>ZH ρ tb ti ((([]:List Int).length:Int)-1) w1 h);have U:=h.lo;obtain ⟨vi,vo,M,V,N⟩:=h.blk;obtain ⟨a,c,rfl⟩:=N.1.shape;clear V N;refine Ad func237 ntmps237 rfl rfl ?_;refine eK ?_;refine C1 (A1 Ac rfl rfl) ?_;refine eK ?_;refine Aq (λ_=>True) 12 (.pure 0 (.pure 1 (.pure 2 (.pure 3 (.pure 4 (.pure 5 (.fork 6 (.pure 7 (.pure 8 (.fork 9 (.pure 10 (.pure 11 .tail)) .none))) .none))))))) mixed AU (Aa Ag) ?_;intro w1 X _;revert h F M;refine eY X ?_;intro z4 h F M;refine ⟨trivial,?_⟩;refine eT ?_;refine AC rfl (Kn (Ap Ac rfl rfl rfl (λwz Y=>by subst Y;exact mM M rfl))) rfl ?_ aFh Ay;rintro _ _ ⟨rfl,rfl⟩;refine ⟨trivial,?_⟩;refine Tq rfl Pz (Tq rfl (AL rfl rfl (iO _ Ab)) ?_);refine AC rfl (AM AU rfl (O.out _ Ae) (λ_ _ h=>h.ret)) rfl ?_ aFh Ay;rintro _ Z ⟨aa,⟨⟩,h8,h9,G⟩;clear h;replace F:=mL F G (λk hk=>iG hk);clear M G;refine ⟨trivial,?_⟩;refine Tq rfl Px (Tq rfl Px (Ar rfl ?_));refine eK ?_;refine Bc rfl rfl rfl ?_;exact ⟨_,rfl,Ro.low Ae Ab,Ae,F⟩
def Tf (ρ:Nat->Rl) (tb:Nat) (x:Int) (ti ys:List Int) (w:wD) (h:TapeAt ρ w tb ti (ys++[x])):Calls prog 237 #[pt tb] w (TapeR ρ tb ti ys (.tuple #[.int .i64 x,.int .i64 0]) w):=by
 have F:=mI (BY ρ) w;have O:=iF (λw1 h=>ZJ ρ tb x ti ys w1 h);have U:=h.lo;obtain ⟨vi,vo,M,V,N⟩:=h.blk;obtain ⟨a,c,rfl⟩:=N.1.shape;clear V N;refine Ad func237 ntmps237 rfl rfl ?_;refine eK ?_;refine C1 (A1 Ac rfl rfl) ?_;refine eK ?_;refine Aq (λ_=>True) 12 (.pure 0 (.pure 1 (.pure 2 (.pure 3 (.pure 4 (.pure 5 (.fork 6 (.pure 7 (.pure 8 (.fork 9 (.pure 10 (.pure 11 .tail)) .none))) .none))))))) mixed AU (Aa Ag) ?_;intro w1 X _;revert h F M;refine eY X ?_;intro z4 h F M;refine ⟨trivial,?_⟩;refine eT ?_;refine AC rfl (Kn (Ap Ac rfl rfl rfl (λwz Y=>by subst Y;exact mM M rfl))) rfl ?_ aFh Ay;rintro _ _ ⟨rfl,rfl⟩;refine ⟨trivial,?_⟩;refine Tq rfl Pz (Tq rfl (AL rfl rfl (iO _ Ab)) ?_);refine AC rfl (AM AU rfl (O.out _ Ae) (λ_ _ h=>h.ret)) rfl ?_ aFh Ay;rintro _ Z ⟨aa,⟨⟩,h8,h9,G⟩;clear h;replace F:=mL F G (λk hk=>iG hk);clear M G;refine ⟨trivial,?_⟩;refine Tq rfl Px (Tq rfl Px (Ar rfl ?_));refine eK ?_;refine Bc rfl rfl rfl ?_;exact ⟨_,rfl,Ro.low Ae Ab,Ae,F⟩
def VF (ρ:Nat->Rl) (tb:Nat) (x:Int) (ti to:List Int) (w:wD) (h:TapeAt ρ w tb ti to) (O:to.length=4096):Calls prog 238 #[pt tb,.int .i64 x] w (TapeR ρ tb ti to (.int .i64 5) w):=by
 have F:=mI (BY ρ) w;have U:=iF (λw1 h=>ZD ρ tb ti to to.length x w1 h O);obtain ⟨vi,vo,G,V,M⟩:=h.blk;obtain ⟨a,c,rfl⟩:=M.1.shape;clear V M;refine Ad func238 ntmps238 rfl rfl ?_;refine eK ?_;refine C1 (A1 Ac rfl rfl) ?_;refine eK ?_;refine Aq (λ_=>True) 9 (.pure 0 (.pure 1 (.pure 2 (.pure 3 (.pure 4 (.pure 5 (.pure 8 (.fork 6 (.pure 7 .tail) .none)))))))) mixed AU (Aa Ag) ?_;intro w1 X _;revert h F G;refine eY X ?_;intro z4 h F G;refine ⟨trivial,?_⟩;refine eT ?_;refine AC rfl (Kn (Ap Ac rfl rfl rfl (λwz Y=>by subst Y;exact mM G rfl))) rfl ?_ aFh Ay;rintro _ _ ⟨rfl,rfl⟩;refine ⟨trivial,?_⟩;refine Tq rfl Pz (Ar rfl (eQ rfl (U.out _ Ae) ?_));rintro _ Z ⟨aa,⟨⟩,h7,h8,N⟩;clear h;replace F:=mL F N (λk hk=>iG hk);clear G N;refine eK ?_;refine AT rfl rfl ?_;exact ⟨_,rfl,Ro.low Ae Ab,Ae,F⟩
def Rx (ρ:Nat->Rl) (tb:Nat) (x:Int) (ti to:List Int) (w:wD) (h:TapeAt ρ w tb ti to) (O:to.length<4096):Calls prog 238 #[pt tb,.int .i64 x] w (TapeR ρ tb ti (to++[x]) (.int .i64 0) w):=by
 have F:=mI (BY ρ) w;have U:=iF (λw1 h=>ZF ρ tb ti to x w1 h O);obtain ⟨vi,vo,G,V,M⟩:=h.blk;obtain ⟨a,c,rfl⟩:=M.1.shape;clear V M;refine Ad func238 ntmps238 rfl rfl ?_;refine eK ?_;refine C1 (A1 Ac rfl rfl) ?_;refine eK ?_;refine Aq (λ_=>True) 9 (.pure 0 (.pure 1 (.pure 2 (.pure 3 (.pure 4 (.pure 5 (.pure 8 (.fork 6 (.pure 7 .tail) .none)))))))) mixed AU (Aa Ag) ?_;intro w1 X _;revert h F G;refine eY X ?_;intro z4 h F G;refine ⟨trivial,?_⟩;refine eT ?_;refine AC rfl (Kn (Ap Ac rfl rfl rfl (λwz Y=>by subst Y;exact mM G rfl))) rfl ?_ aFh Ay;rintro _ _ ⟨rfl,rfl⟩;refine ⟨trivial,?_⟩;refine Tq rfl Pz (Ar rfl (eQ rfl (U.out _ Ae) ?_));rintro _ Z ⟨aa,⟨⟩,h7,h8,N⟩;clear h;replace F:=mL F N (λk hk=>iG hk);clear G N;refine eK ?_;refine AT rfl rfl ?_;exact ⟨_,rfl,Ro.low Ae Ab,Ae,F⟩
def fI (ρ:Nat->Rl) (tb:Nat) (ti to:List Int) (w:wD) (h:TapeAt ρ w tb ti to):Calls prog 163 #[pt tb] w (CloneR ti w):=by
 have X:=Ne w;have M:=h.li;obtain ⟨U,V,Y,G,Z⟩:=h.blk;obtain ⟨a,c,rfl⟩:=G.1.shape;have N:=G.1.at;refine Ad func163 ntmps163 rfl rfl (eK ?_);refine C1 (A1 Ac rfl rfl) (kQ (FF ti Ab _ _ _ Ae) ?_);rintro _ w6 ⟨a1,c2,⟨⟩,h3,h4,O⟩;have X:=X.ext O;refine kR ?_;exact ⟨_,_,rfl,Ae,Ae,X⟩
def cW (ρ:Nat->Rl) (tb:Nat) (ti to:List Int) (w:wD) (h:TapeAt ρ w tb ti to):Calls prog 164 #[pt tb] w (CloneR to w):=by
 have X:=Ne w;have M:=h.lo;obtain ⟨U,V,Y,Z,G⟩:=h.blk;obtain ⟨a,c,rfl⟩:=G.1.shape;have N:=G.1.at;refine Ad func164 ntmps164 rfl rfl (eK ?_);refine C1 (A1 Ac rfl rfl) (kQ (FF to Ab _ _ _ Ae) ?_);rintro _ w6 ⟨a1,c2,⟨⟩,h3,h4,O⟩;have X:=X.ext O;refine kR ?_;exact ⟨_,_,rfl,Ae,Ae,X⟩
def TNewR (ρ:Nat->Rl) (ti to:List Int) (w:wD):Ending->wD->Prop:=λe w'=> ∃tb ρ',e = .returned (.tuple #[.pointer (some ⟨tb,0,none⟩),.int .i64 0])/\Ro ρ ρ' w/\w.heap.size<=tb/\TapeAt ρ' w' tb ti to/\Ext w w'
def TNewR.ret {ti to:List Int} (h:TNewR ρ ti to w e w'):∃v,e = .returned v:=by
 obtain ⟨_,_,h,-⟩:=h;exact ⟨_,h⟩
def cX (ρ:Nat->Rl) (ti to:List Int) (hi:ti.length<=4096) (ho:to.length<=4096) (a b:oA) (c d:Nat) (w:wD) (h:IntsAt w ti a) (h':IntsAt w to b):Calls prog 157 #[.slice a ti.length c,.slice b to.length d] w (TNewR ρ ti to w):=by
 have X:=Ne w;refine Ad func157 ntmps157 rfl rfl (kQ (FF ti Ab _ _ _ h) ?_);rintro _ w6 ⟨a1,c2,⟨⟩,M,h4,x5⟩;revert h' X;refine eY x5 ?_;intro z7 h' X;refine C1 Mv (eQ rfl (FF to Ab _ _ _ Ae) ?_);rintro _ N ⟨a8,c9,⟨⟩,G,O,U⟩;revert M X;refine eY U ?_;intro aa M X;refine C1 (xB [_,_]) (eB [_,_] ?_);intro ab ac V Y ad ae;revert G M X;refine eE Y ?_;intro G M X;refine kT ?_;refine ⟨_,λb=>if b<w.heap.size then ρ b else if b<w6.heap.size then .tin else if b<N.heap.size then .tout else .tape,rfl,λb hb=>AG hb,Ab,⟨?_,⟨_,_,V,⟨M.low (λ_ _=>iT _),λk Z=>?_⟩,G.low (λ_ _=>iT _),λk Z=>?_⟩,hi,ho⟩,X⟩
 . (try dsimp only)
   rw [At Ab,At Ab,At Ab]
 . have:=h4 k Z
   (try dsimp only);rw [At Ab,AG Ab]
 . have:=O k Z
   (try dsimp only);rw [At Ab,At Ab,AG Ab]
def Win (w:wD) (b o:Nat) (vs pre post:lV) (T:TypeId):Prop:=TB w b (pre++vs++post) T/\pre.length=o
section
variable {ρ':Nat->Rl} {κ':Nat->Nat} {r:Rl} {w0:wD} {o:Nat} {vs pre post:lV} {e:Nat}
def Win.ext (h:Win w b o vs pre post T) (x:Ext w w'):Win w' b o vs pre post T:=⟨h.1.ext x,h.2⟩
instance  : LfE w w' (Win w b o vs pre post T) (Win w' b o vs pre post T):=⟨λx h=>Bk.Win.ext h x⟩
def Win.fr (h:Win w b o vs pre post T) (x:Fr S w w') (G:¬S b):Win w' b o vs pre post T:=⟨h.1.fr x G,h.2⟩
instance  : LfF S w w' (Win w b o vs pre post T) (¬S b) (Win w' b o vs pre post T):=⟨λx s h=>Bk.Win.fr h x s⟩
def Win.blk (h:Win w b o vs pre post T):Row w ⟨b,o,none⟩ vs:=by
 have:=Blk.sub h.1.blk o vs.length;obtain ⟨-,rfl⟩:=h;simpa [jk] using this
def LC:∀(us pre vs post:lV) (i:Nat),i+us.length<=vs.length->A8 (pre++vs++post) (pre.length+i) us=pre++A8 vs i us++post
 | [],_,_,_,_,_=>rfl
 | u::r,pre,vs,post,i,h=>by
  simp only [iM] at h;simp only [A8];rw [show (pre++vs++post).set (pre.length+i) u=pre++vs.set i u++post by
   rw [jk,lj _ _ Ab,show pre.length+i-pre.length=i by omega,List.set_append_left _ _ Ab,<-jk]]
  exact LC r pre (vs.set i u) post (i+1) (by simp;omega)
def CA {l:Sl} {tab:Tab} {t:Nat} {s:Sk} (b o i:Nat) (vs':lV) (TT:TabOk P tab) (ht:AD tab t=some (s,sz)) (hx:ev l x=some (.pointer (some ⟨b,o+i,none⟩))) (hy:ev l y=some v)
 (hv:v.cells=us.toArray) (hl:us.length=sz) (h1:us.all mW=true) (hb:Win w b o vs pre post T) (ho:jW (i+us.length) vs.length=true) (he:A8 vs i us=vs') :
 BG P m l (.store t x y) ty w (GV λw'=>Win w' b o vs' pre post T/\Fr (· = b) w w'/\w'.heap.size=w.heap.size):=by
 unfold BG;intro a dst pos after g next Q ha _ hn;rw [mq] at ho;obtain ⟨hb,rfl⟩:=hb;obtain ⟨w1,e1,e2,e3⟩:=Ff (P:=P) us w b (pre.length+i) 0 _ hb (by simp only [iX];omega) h1;have e:(execOp a.eval ⟨dst,.store t x y,ty,pos,after,g⟩).run P w = .ok .skip w1:=by
  have hcs:v.cells.toList=us:=by rw [hv]
  have hsz:v.cells.size=sz:=by rw [hv];simpa using hl
  simp only [execOp,ha.ev hx,ha.ev hy,Instr.storeAt,Instr.sureAddr,iV,je,iP,storeVar,Cb (TT _ _ _ ht),hsz,hcs,e1];simp only [ne_eq,not_true,if_false,iV,je,iP,e1]
 unfold kh;rw [e];refine hn _ ⟨⟨?_,rfl⟩,e2.fr,e2.size⟩;rw [kK,LC us pre vs post i ho,he] at e3;exact e3
def Fs {l:Sl} {tab:Tab} {t:Nat} {s:Sk} (b o:Nat) (h:lV) (G:TabOk P tab) (M:AD tab t=some (s,sz)) (N:ev l x=some (.pointer (some ⟨b,o,none⟩))) (O:ev l y=some v)
 (U:v.cells=us.toArray) (V:us.length=sz) (X:us.all mW=true) (Y:Win w b o vs pre post T) (Z:jW us.length vs.length=true) (he:A8 vs 0 us=h) :
 BG P m l (.store t x y) ty w (GV λw'=>Win w' b o h pre post T/\Fr (· = b) w w'/\w'.heap.size=w.heap.size):=
 CA b o 0 h G M N O U V X Y (by rw [jC];exact Z) he
def OwnP (ρ:Nat->Rl) (r:Rl) (w:wD) (e sz:Nat) (v:Value) (n:Nat) (cs:lV):Prop:=Own w 0 e sz v n cs /\ ∀k,v.ownBlock=some k->ρ k=r
def OwnP.ext (h:OwnP ρ r w e sz v n cs) (x:Ext w w'):OwnP ρ r w' e sz v n cs:=⟨h.1.ext x,h.2⟩
instance  : LfE w w' (OwnP ρ r w e sz v n cs) (OwnP ρ r w' e sz v n cs):=⟨λx h=>Bk.OwnP.ext h x⟩
def OwnP.fr (h:OwnP ρ r w e sz v n cs) (x:Fr S w w') (G:∀k,S k->ρ k≠r):OwnP ρ r w' e sz v n cs:=⟨h.1.fr x (λk M N=>G k N (h.2 k M)),h.2⟩
instance  : LfF S w w' (OwnP ρ r w e sz v n cs) (∀k,S k->ρ k≠r) (OwnP ρ r w' e sz v n cs):=⟨λx s h=>Bk.OwnP.fr h x s⟩
def OwnP.ro (h:OwnP ρ r w e sz v n cs) (x:Ro ρ ρ' w0) (M:w.heap.size<=w0.heap.size):OwnP ρ' r w e sz v n cs:=
 ⟨h.1,λk G=>by have:=(h.1.blk G).2;rw [x k Ab];exact h.2 k G⟩
def OwnP.move (h:OwnP ρ r w e sz v n cs) (x:Fr S w w') (G:∀k,S k->ρ k≠r) (M:Ro ρ ρ' w):OwnP ρ' r w' e sz v n cs:=
 ⟨(h.fr x G).1,(h.ro M (iW _)).2⟩
def OwnR.move (h:OwnR ρ r w v xs) (x:Fr S w w') (G:∀k,S k->ρ k≠r) (M:Ro ρ ρ' w):OwnR ρ' r w' v xs:=
 ⟨(h.fr x G).1,(h.ro M (iW _)).2⟩
abbrev KC (κ:Nat->Nat) (c:Nat):Value:=.pointer (some ⟨κ c,0,none⟩)
structure FrameOk (ρ:Nat->Rl) (κ:Nat->Nat) (w:wD) (j:Nat) (f:Frm) (vv vc:Value):Prop where
 v:OwnP ρ (.vars j) w 77 3 vv f.vars.length (f.vars.flatMap VD.cells)
 c:OwnP ρ (.cels j) w 234 1 vc f.cells.length (f.cells.map (KC κ))
variable {j:Nat} {vc:Value}
def FrameOk.ext (h:FrameOk ρ κ w j f vv vc) (x:Ext w w'):FrameOk ρ κ w' j f vv vc:=⟨h.v.ext x,h.c.ext x⟩
instance  : LfE w w' (FrameOk ρ κ w j f vv vc) (FrameOk ρ κ w' j f vv vc):=⟨λx h=>Bk.FrameOk.ext h x⟩
def FrameOk.fr (h:FrameOk ρ κ w j f vv vc) (x:Fr S w w') (M:∀k,S k->ρ k≠.vars j/\ρ k≠.cels j):FrameOk ρ κ w' j f vv vc:=⟨h.v.fr x (λk G=>(M k G).1),h.c.fr x (λk G=>(M k G).2)⟩
instance  : LfF S w w' (FrameOk ρ κ w j f vv vc) (∀k,S k->ρ k≠.vars j/\ρ k≠.cels j) (FrameOk ρ κ w' j f vv vc):=⟨λx s h=>Bk.FrameOk.fr h x s⟩
def FrameOk.move (h:FrameOk ρ κ w j f vv vc) (x:Fr S w w') (M:∀k,S k->ρ k≠.vars j/\ρ k≠.cels j) (N:Ro ρ ρ' w) (G:∀c∈f.cells,κ' c=κ c):FrameOk ρ' κ' w' j f vv vc:=
 ⟨h.v.move x (λk G=>(M k G).1) N,by
  have:=h.c.move x (λk G=>(M k G).2) N;rw [show f.cells.map (KC κ')=f.cells.map (KC κ) from List.map_congr_left λc O=>by simp only [KC,G c O]];exact this⟩
def FramesOk (ρ:Nat->Rl) (κ:Nat->Nat) (w:wD):Nat->List Frm->lV->Prop
 | _,[],cs=>cs=[]
 | j,f::r,cs=> ∃vv vc cs',cs=[vv,vc,.int .i64 f.locals]++cs'/\FrameOk ρ κ w j f vv vc/\FramesOk ρ κ w (j+1) r cs'
def FramesOk.move {S:nP} (x:Fr S w w') (N:Ro ρ ρ' w):∀(l:List Frm) (j:Nat) (cs:lV),FramesOk ρ κ w j l cs->(∀k,S k -> ∀i,j<=i->i<j+l.length->ρ k≠.vars i/\ρ k≠.cels i)->(∀f∈l,∀c∈f.cells,κ' c=κ c)->FramesOk ρ' κ' w' j l cs
 | [],_,_,h,_,_=>h
 | f::l,j,cs,⟨vv,vc,G,O,U,Y⟩,V,X=>⟨vv,vc,G,O,U.move x (λk M=>V k M j (iW _) AN) N (X f AN),FramesOk.move x N l (j+1) G Y (λk M i O U=>V k M i Ab (by simp only [iM];omega)) (λf Z=>X f (by simp [Z]))⟩
def FramesOk.snoc:∀(l:List Frm) (j:Nat) (f:Frm) (cs:lV),FramesOk ρ κ w j (l++[f]) cs ↔ ∃h vv vc,cs=h++[vv,vc,.int .i64 f.locals]/\FramesOk ρ κ w j l h/\FrameOk ρ κ w (j+l.length) f vv vc
 | [],j,f,cs=>by
  constructor
  . rintro ⟨vv,vc,N,rfl,O,X⟩;obtain rfl:N=[]:=X;exact ⟨[],vv,vc,rfl,rfl,O⟩
  . rintro ⟨h,vv,vc,rfl,Z,O⟩;obtain rfl:h=[]:=Z;exact ⟨vv,vc,[],rfl,O,rfl⟩
 | g::l,j,f,cs=>by
  constructor
  . rintro ⟨vv,vc,N,rfl,O,X⟩;obtain ⟨h,G,M,rfl,Y,V⟩:=(FramesOk.snoc l (j+1) f N).1 X;exact ⟨[vv,vc,.int .i64 g.locals]++h,G,M,AN,⟨vv,vc,h,rfl,O,Y⟩,by rw [iM,show j+(l.length+1)=j+1+l.length by omega];exact V⟩
  . rintro ⟨h,G,M,rfl,⟨vv,vc,U,rfl,O,Y⟩,V⟩;refine ⟨vv,vc,U++[G,M,.int .i64 f.locals],AN,O,(FramesOk.snoc l (j+1) f _).2 ⟨U,G,M,rfl,Y,?_⟩⟩;rw [iM,show j+(l.length+1)=j+1+l.length by omega] at V;exact V
def FramesOk.len:∀(l:List Frm) (j:Nat) (cs:lV),FramesOk ρ κ w j l cs->cs.length=l.length*3
 | [],_,_,h=>by obtain rfl:_=[]:=h;rfl
 | f::l,j,cs,⟨vv,vc,G,M,O,N⟩=>by
  have:=FramesOk.len l (j+1) G N;rw [M];simp only [iX,iM,ji];omega
def CellAt (ρ:Nat->Rl) (κ:Nat->Nat) (w:wD) (c:Nat) (xs:List Int):Prop:=ρ (κ c) = .cell c /\ ∃v,Blk w (κ c) [v]/\OwnR ρ (.items c) w v xs
def CellAt.move {c:Nat} {xs:List Int} (h:CellAt ρ κ w c xs) (x:Fr S w w') (N:∀k,S k->ρ k≠.cell c/\ρ k≠.items c) (O:Ro ρ ρ' w) (G:κ' c=κ c):CellAt ρ' κ' w' c xs:=by
 obtain ⟨U,v,V,X⟩:=h;have M:=V.lt;refine ⟨by rw [G,O _ M,U],v,?_,X.move x (λk G=>(N k G).2) O⟩;rw [G];exact V.fr x (λY=>(N _ Y).1 U)
def Fresh (ρ:Nat->Rl) (w:wD):Prop:= ∀b,w.heap.size<=b->ρ b = .none
def Fresh.ext (h:Fresh ρ w) (x:Ext w w'):Fresh ρ w':=λb G=>h b (by have:=x.size;omega)
instance  : LfE w w' (Fresh ρ w) (Fresh ρ w'):=⟨λx h=>Bk.Fresh.ext h x⟩
def Fresh.mv (h:Fresh ρ w) (x:Fr S w w'):Fresh ρ w':=λb G=>h b (by have:=x.size;omega)
structure StoreAt (ρ:Nat->Rl) (κ:Nat->Nat) (w:wD) (sb:Nat) (st:Stp):Prop where
 role:ρ sb = .store
 fresh:Fresh ρ w
 frs:∃bv bc cv tb cs,Blk w sb [bv,bc,.int .i64 st.base.locals,cv,.pointer (some ⟨tb,0,none⟩)]/\FrameOk ρ κ w 0 st.base bv bc/\OwnP ρ .calls w 229 3 cv st.calls.length cs/\FramesOk ρ κ w 1 st.calls cs/\TapeAt ρ w tb st.tin st.tout
 cells:∀c xs,st.heap[c]? = some xs->CellAt ρ κ w c xs
def MZ:Rl->Prop
 | .none | .other _=>False
 | _=>True

def TapeAt.move {tb:Nat} {ti to:List Int} (h:TapeAt ρ w tb ti to) (x:Fr S w w') (G:∀k,S k->ρ k≠.tape/\ρ k≠.tin/\ρ k≠.tout) (M:Ro ρ ρ' w):TapeAt ρ' w' tb ti to:=by
 obtain ⟨U,⟨X,Y,V,Z,h4⟩,h5,h6⟩:=h;have N:=V.lt;exact ⟨by rw [M _ N,U],⟨X,Y,V.fr x (λhS=>(G _ hS).1 U),Z.move x (λk O=>(G k O).2.1) M,h4.move x (λk O=>(G k O).2.2) M⟩,h5,h6⟩
def StoreAt.move (h:StoreAt ρ κ w sb st) (x:Fr S w w') (Y:∀k,S k -> ¬MZ (ρ k)) (N:Ro ρ ρ' w) (O:Fresh ρ' w'):StoreAt ρ' κ w' sb st:=by
 obtain ⟨V,-,⟨Z,bc,cv,tb,cs,X,h3,h4,h5,h6⟩,h7⟩:=h;have U:=X.lt;have M:∀ {r:Rl},MZ r -> ∀k,S k->ρ k≠r:=λN k G e=>Y k G (by rw [e];exact N)
 exact ⟨by rw [N _ U,V],O,⟨Z,bc,cv,tb,cs,X.fr x (λhS=>M (r:=.store) trivial _ hS V),h3.move x (λk G=>⟨M (by exact trivial) k G,M (by exact trivial) k G⟩) N (λ_ _=>rfl),h4.move x (M (by exact trivial)) N,FramesOk.move x N _ _ _ h5 (λk G i _ _=>⟨M (by exact trivial) k G,M (by exact trivial) k G⟩) (λ_ _ _ _=>rfl),h6.move x (λk G=>⟨M (by exact trivial) k G,M (by exact trivial) k G,M (by exact trivial) k G⟩) N⟩,
  λc xs hc=>(h7 c xs hc).move x (λk G=>⟨M (by exact trivial) k G,M (by exact trivial) k G⟩) N rfl⟩
def Fr.none {w w':wD} (x:Ext w w'):Fr (λ_=>False) w w':=.of_ext x
def StoreAt.ext (h:StoreAt ρ κ w sb st) (x:Ext w w'):StoreAt ρ κ w' sb st:=h.move (Fr.none x) (λ_ h=>h.elim) (Ro.refl _ _) (h.fresh.ext x)
instance  : LfE w w' (StoreAt ρ κ w sb st) (StoreAt ρ κ w' sb st):=⟨λx h=>Bk.StoreAt.ext h x⟩
def StoreAt.fr (h:StoreAt ρ κ w sb st) (x:Fr S w w') (G:∀k,S k -> ¬MZ (ρ k)):StoreAt ρ κ w' sb st:=h.move x G (Ro.refl _ _) (h.fresh.mv x)
instance  : LfF S w w' (StoreAt ρ κ w sb st) (∀k,S k -> ¬MZ (ρ k)) (StoreAt ρ κ w' sb st):=⟨λx s h=>Bk.StoreAt.fr h x s⟩
def CurP (w:wD) (sb fb fo n:Nat):Prop:= ∃x y z a c tp,Blk w sb [x,y,z,.slice a n c,tp]/\((n=0/\fb=sb/\fo=0)\/(0<n/\a=some ⟨fb,0,none⟩/\fo=(n-1)*3))
def CurP.ext {G M:Nat} (h:CurP w sb G M n) (x:Ext w w'):CurP w' sb G M n:=by
 obtain ⟨N,O,a3,a4,a5,U,V,X⟩:=h;exact ⟨N,O,a3,a4,a5,U,V.ext x,X⟩
instance:LfE w w' (CurP w sb m c n) (CurP w' sb m c n):=⟨λx h=>Bk.CurP.ext h x⟩
def Ft (ρ:Nat->Rl) (j fb k:Nat):Prop:=k=fb\/ρ k = .vars j\/ρ k = .cels j
def Ry (ρ:Nat->Rl) (κ:Nat->Nat) (w:wD) (sb:Nat) (st:Stp) (fb fo:Nat) (pre post:lV) (T:TypeId):Prop:=
 ∀(ρ':Nat->Rl) (κ':Nat->Nat) (w':wD) (f':Frm) (vv' vc':Value),Ro ρ ρ' w->Fresh ρ' w'->(∀f∈st.base::st.calls,∀c∈f.cells,κ' c=κ c)->(∀c,c<st.heap.length->κ' c=κ c)->Fr (Ft ρ st.calls.length fb) w w'->Win w' fb fo [vv',vc',.int .i64 f'.locals] pre post T->FrameOk ρ' κ' w' st.calls.length f' vv' vc'->StoreAt ρ' κ' w' sb (st.setCur f')
def StoreAt.open (h:StoreAt ρ κ w sb st):∃fb fo pre post T vv vc,CurP w sb fb fo st.calls.length/\(ρ fb = .store\/ρ fb = .calls)/\Win w fb fo [vv,vc,.int .i64 st.cur.locals] pre post T/\FrameOk ρ κ w st.calls.length st.cur vv vc/\Ry ρ κ w sb st fb fo pre post T:=by
 obtain ⟨Z,-,⟨bv,bc,cv,tb,cs,⟨Ts,h2⟩,h3,h4,h5,h6⟩,h7⟩:=h;have ak:∃a c,cv = .slice a st.calls.length c:=by
  rcases h4.1.row with ⟨rfl,V,-⟩|⟨g,cap,rfl,-⟩
  . exact ⟨none,0,by rw [V]⟩
  . exact ⟨_,_,rfl⟩
 obtain ⟨ca,cc,rfl⟩:=ak;have ag:=Blk.lt ⟨Ts,h2⟩;rcases jF st.calls with N|⟨l,f,N⟩
 . have M:st.cur=st.base:=by unfold Stp.cur;rw [N];rfl
   refine ⟨sb,0,[],[.slice ca st.calls.length cc,pt tb],Ts,bv,bc,⟨_,_,_,_,_,_,⟨Ts,h2⟩,iG ⟨by rw [N];rfl,rfl,rfl⟩⟩,iG Z,⟨by rw [M];exact h2,rfl⟩,by rw [M,N];exact h3,?_⟩;intro ρ' κ' w' f' aa ab X ad G ae x hw hf;have hS:∀k,Ft ρ st.calls.length sb k->ρ k = .store\/ρ k = .vars 0\/ρ k = .cels 0:=λk G=>by
    rcases G with rfl|h|h
    . exact iG Z
    . exact iH (iG (by rw [h,N];rfl))
    . exact iH (iH (by rw [h,N];rfl))
   have O:∀ {r:Rl},r≠.store->r≠.vars 0->r≠.cels 0 -> ∀k,Ft ρ st.calls.length sb k->ρ k≠r:=λn1 n2 n3 k G e=>by
    rcases hS k G with h|h|h
    . exact n1 (by rw [<-e,h])
    . exact n2 (by rw [<-e,h])
    . exact n3 (by rw [<-e,h])
   have af:st.setCur f'={ st with base:=f' }:=by unfold mV;rw [AG N]
   rw [af];refine ⟨by rw [X _ ag,Z],ad,⟨aa,ab,.slice ca st.calls.length cc,tb,cs,⟨Ts,hw.1⟩,?_,h4.move x (O AN AN AN) X,?_,h6.move x (λk G=>⟨O AN AN AN k G,O AN AN AN k G,O AN AN AN k G⟩) X⟩,λc xs hx=>(h7 c xs hx).move x (λk G=>⟨O AN AN AN k G,O AN AN AN k G⟩) X (ae c (by
    rcases i7 c st.heap.length with h|h
    . exact h
    . rw [iR h] at hx;cases hx))⟩
   . rw [N] at hf;exact hf
   . show FramesOk ρ' κ' w' 1 st.calls cs;rw [N] at h5 ⊢;exact h5
 . have M:st.cur=f:=by unfold Stp.cur;rw [N];simp
   have V:st.calls.length=l.length+1:=by rw [N];simp
   rw [N,jU] at h5;obtain ⟨U,vv,vc,rfl,h8,h9⟩:=(FramesOk.snoc l 1 f cs).1 h5;have ac:=FramesOk.len _ _ _ h8;obtain ⟨al,am⟩:=h4;obtain ⟨o1,⟨o2,-⟩|⟨g,cap,cur,o2,o3,o4,o5,o6,o7,o8⟩⟩:=al
   . simp [V] at o2
   . obtain ⟨rfl,rfl⟩:ca=some ⟨g,0,none⟩/\cc=cap:=by simpa using o2
     have hg:=am g rfl;have an:sb≠g:=λe=>by rw [e,hg] at Z;cases Z
     have Y:cur.toList=U++[vv,vc,.int .i64 f.locals]++cur.toList.drop (st.calls.length*3):=by rw [<-o8,jA]
     have ah:TB w g (U++[vv,vc,.int .i64 f.locals]++cur.toList.drop (st.calls.length*3)) 229:=by
      unfold TB;rw [o4,<-Y]
     refine ⟨g,(st.calls.length-1)*3,U,cur.toList.drop (st.calls.length*3),229,vv,vc,⟨_,_,_,_,_,_,⟨Ts,h2⟩,iH ⟨Ab,rfl,rfl⟩⟩,iH hg,⟨by rw [M];exact ah,by rw [ac,V];rfl⟩,by rw [M,V,l9];exact h9,?_⟩;intro ρ' κ' w' f' aa ab X ad G ae x hw hf;have O:∀ {r:Rl},r≠.calls->r≠.vars st.calls.length->r≠.cels st.calls.length -> ∀k,Ft ρ st.calls.length g k->ρ k≠r:=λn1 n2 n3 k G e=>by
      rcases G with rfl|h|h
      . exact n1 (by rw [<-e,hg])
      . exact n2 (by rw [<-e,h])
      . exact n3 (by rw [<-e,h])
     have af:st.setCur f'={ st with calls:=l++[f'] }:=by
      unfold mV;rw [At (by rw [N];simp),N];simp
     have ai:∀i,i<st.calls.length -> ∀k,Ft ρ st.calls.length g k->ρ k≠.vars i/\ρ k≠.cels i:=λi hi k G=>⟨O AN (by simp;omega) AN k G,O AN AN (by simp;omega) k G⟩
     have ao:g<w.heap.size:=ah.blk.lt;rw [af];refine ⟨by rw [X _ ag,Z],ad,⟨bv,bc,.slice (some ⟨g,0,none⟩) (l++[f']).length cc,tb,U++[aa,ab,.int .i64 f'.locals],?_,h3.move x (ai 0 Ab) X (G _ AN),⟨?_,λk G=>?_⟩,(FramesOk.snoc l 1 f' _).2 ⟨U,aa,ab,rfl,FramesOk.move x X l 1 U h8 (λk G i Z h2=>ai i Ab k G) (λf hf=>G f (by rw [N];simp [hf])),?_⟩,h6.move x (λk G=>⟨O AN AN AN k G,O AN AN AN k G,O AN AN AN k G⟩) X⟩,λc xs hx=>(h7 c xs hx).move x (λk G=>⟨O AN AN AN k G,O AN AN AN k G⟩) X (ae c (by
      rcases i7 c st.heap.length with h|h
      . exact h
      . rw [iR h] at hx;cases hx))⟩
     . have:(l++[f']).length=st.calls.length:=by rw [V];simp
       rw [this];exact mH ⟨Ts,h2⟩ x (λh=>by
        rcases h with h|h|h
        . exact an h
        . rw [Z] at h;cases h
        . rw [Z] at h;cases h)
     . have ap:(l++[f']).length=st.calls.length:=by rw [V];simp
       rw [ap];have aj:=hw.1;unfold TB at aj;refine ⟨by simp [ac,V];omega,iH ⟨g,cc,_,rfl,iT _,aj,o5,o6,?_,?_⟩⟩
       . have:=congrArg List.length Y;simp only [kd] at this;simp only [lW];rw [o7] at this;simp only [iX,iM,ji] at this ⊢;omega
       . simp only [List.toList_toArray];rw [List.take_append_of_le_length (by simp [ac,V];omega)];rw [kk (by simp [ac,V];omega)]
     . simp only [km,iL] at G;rw [<-G,X _ ao,hg]
     . rw [V,l9] at hf;exact hf
end
def LeX {α β:Type} (f g:α->Except Int β):Prop:= ∀a,f a≠.error (-1)->g a=f a
def LeX.refl (f:α->Except Int β):LeX f f:=λ_ _=>rfl
def LeX.trans {f g h:α->Except Int β} (M:LeX f g) (N:LeX g h):LeX f h:=λa G=>by
 have e:=M a G;rw [N a (by rw [e];exact G),e]
def LeX.bind {α β γ:Type} {f f':α->Except Int β} {k N:β->Except Int γ} (h:LeX f f') (O:LeX k N):LeX (λa=>(f a).bind k) (λa=>(f' a).bind N):=λa M=>by
 cases e:f a with
 | error x=>
  have G:f a≠.error (-1):=λU=>by
   apply M;simp only [U,i6]
  simp only [h a G,e,i6]
 | ok v=>
  have G:f a≠.error (-1):=by rw [e];simp
  simp only [e,i6] at M;simp only [h a G,e,i6];exact O v M
def LeX.row {f g:Nd->Rn->Except Int Rn}:∀(l:List Nd),(∀t∈l,LeX (f t) (g t))->LeX (Ei f l) (Ei g l)
 | [],_=>LeX.refl _
 | t::l,h=>LeX.bind (f:=f t) (h t AN) (LeX.row l (λx G=>h x (by simp [G])))
def LeX.loop {O U M G:Rn->Except Int Rn} {test entry:Nd} (V:LeX O M) (X:LeX U G):∀(m m':Nat),m<=m'->LeX (Cg O U test entry m) (Cg M G test entry m')
 | 0,_,_=>λa h=>absurd rfl h
 | m+1,0,h=>by omega
 | m+1,m'+1,h=>by
  refine LeX.bind (f:=O) V (LeX.bind (f:=BK test) (LeX.refl _) λp N=>?_);cases hq:p.1
  . simp only [hq,jv,if_false] at N ⊢;exact LeX.bind (f:=λp:Bool×Rn=>U p.2) (f':=λp:Bool×Rn=>G p.2) (λp N=>X p.2 N) (LeX.bind (f:=Bj entry false) (LeX.refl _) (LeX.loop V X m m' Ab)) p N
  . simp only [if_true]
def LeX.block {f g:Bool->Nd->Rn->Except Int Rn} (h:∀b t,LeX (f b t) (g b t)) (b:Bool) (t:Nd):LeX (AH f b t) (AH g b t):=by
 unfold AH;exact LeX.row _ (λx _=>h b x)
def Rz (ps:List PD):∀(d:Nat) (b:Bool) (t:Nd),LeX (Ax ps d b t) (Ax ps (d+1) b t)
 | 0,b,t=>λr h=>absurd (by simp [Ax]) h
 | d+1,b,.mk k n s l=>by
  have IH:=Rz ps d;have HB:∀b t,LeX (AH (Ax ps d) b t) (AH (Ax ps (d+1)) b t):=λb t=>LeX.block IH b t
  intro r
  conv=>lhs;unfold Ax
  conv=>rhs;lhs;unfold Ax
  conv=>rhs;rhs;unfold Ax
  revert r;by_cases c1:k=52
  . simp only [AG c1];refine LeX.bind (f:=BK _) (LeX.refl _) λp=>?_
    exact LeX.bind (f:=λp:Bool×Rn=>AH (Ax ps d) b (if p.1=true then Bu l 1 else Bu l 2) p.2) (f':=λp:Bool×Rn=>AH (Ax ps (d+1)) b (if p.1=true then Bu l 1 else Bu l 2) p.2) (λp hp=>HB b _ p.2 hp) (LeX.refl (Bj _ p.1)) p
  simp only [At c1];by_cases c2:k=53
  . simp only [AG c2];exact LeX.bind (f:=Bj _ true) (LeX.refl _) (LeX.loop (HB b _) (HB b _) d (d+1) Ab)
  simp only [At c2];by_cases c3:k=54
  . simp only [AG c3];refine LeX.bind (f:=A6) (LeX.refl _) λr=>?_
    refine LeX.bind (f:=λr=>BF _ r) (f':=λr=>BF _ r) (LeX.refl _) (λv=>?_) r;refine LeX.bind (f:=λv=>Cy (·.opens ⟨s,1,0⟩ v) r) (f':=λv=>Cy (·.opens ⟨s,1,0⟩ v) r) (LeX.refl _) ?_ v;exact LeX.bind (HB b _) (LeX.refl _)
  simp only [At c3];by_cases c4:k=55
  . simp only [AG c4];exact LeX.bind (f:=A6) (LeX.refl _) (LeX.bind (f:=Cy (·.opens ⟨s,3,0⟩ 0)) (LeX.refl _) (LeX.bind (HB b _) (LeX.refl _)))
  simp only [At c4];by_cases c5:k=50\/k=51
  . simp only [AG c5];exact LeX.bind (f:=A6) (LeX.refl _) (LeX.bind (f:=Cy _) (LeX.refl _) (LeX.bind (HB _ _) (LeX.refl _)))
  . simp only [At c5];exact λ_ _=>trivial
def KX (ps:List PD) (b:Bool) (t:Nd) {d:Nat} (h:d<=n):LeX (Ax ps d b t) (Ax ps n b t):=by
 induction h with
 | refl=>exact LeX.refl _
 | step _ M=>exact M.trans (Rz ps _ b t)
def LeX.blockN {ps:List PD} {d:Nat} (h:d<=n) (b:Bool) (t:Nd):LeX (AH (Ax ps d) b t) (AH (Ax ps n) b t):=LeX.block (λb t=>KX ps b t h) b t
def Dec (f:Rn->Except Int Rn):Prop:= ∀r r',f r = .ok r'->r'.rem<=r.rem
def AO {x:Except Int α} {k:α->Except Int β} {v:β} (h:x.bind k = .ok v):∃a,x = .ok a/\k a = .ok v:=by
 cases x with
 | error e=>simp [i6] at h
 | ok a=>exact ⟨a,rfl,h⟩
def B7 (h:A6 r = .ok G):0<r.rem/\G=⟨r.st,r.rem-1⟩:=by
 unfold A6 at h;split at h
 . cases h
 . cases h;exact ⟨Ab,rfl⟩
def Dw {f:Stp->Int×Stp} (h:Cy f r = .ok G):(f r.st).1=0/\G=⟨(f r.st).2,r.rem⟩:=by
 unfold Cy at h;split at h
 . cases h
 . cases h;exact ⟨Ab,rfl⟩
def M0 {v:Int} (h:BF t r = .ok v):AW r.st.look t=(v,0):=by
 unfold BF at h;split at h
 . cases h
 . cases h;rename_i h;exact Prod.ext rfl Ab
def Et {p:Bool×Rn} (h:BK t r = .ok p):0<r.rem/\p.2=⟨r.st,r.rem-1⟩ /\ ∃v,AW r.st.look t=(v,0)/\p.1=decide (v≠0):=by
 obtain ⟨O,G,h⟩:=AO h;obtain ⟨v,M,h⟩:=AO h;cases h;obtain ⟨N,rfl⟩:=B7 G;exact ⟨N,rfl,v,M0 M,rfl⟩
def De {q:Bool} (h:Bj t q r = .ok G):0<r.rem/\G=⟨r.st,r.rem-1⟩ /\ ∃v,AW r.st.look t=(v,0)/\q=decide (v≠0):=by
 obtain ⟨p,M,h⟩:=AO h;obtain ⟨N,O,v,U,V⟩:=Et M;split at h
 . cases h
 . cases h;rename_i X;exact ⟨N,O,v,U,by rw [<-V];simpa using (Decidable.not_not.1 X).symm⟩
def Dec.row {f:Nd->Rn->Except Int Rn}:∀(l:List Nd),(∀t,Dec (f t))->Dec (Ei f l)
 | [],_,r,G,h=>by cases h;exact iW _
 | t::l,M,r,G,h=>by
  obtain ⟨a,N,O⟩:=AO h;have:=M t r a N;have:=Dec.row l M a G O;omega
def Dec.block {f:Bool->Nd->Rn->Except Int Rn} (h:∀b t,Dec (f b t)) (b:Bool) (t:Nd):Dec (AH f b t):=Dec.row _ (h b)
def Dec.loop {G M:Rn->Except Int Rn} {test entry:Nd} (N:Dec G) (O:Dec M):∀m,Dec (Cg G M test entry m)
 | 0,r,Y,h=>by cases h
 | m+1,r,Y,h=>by
  obtain ⟨a,k1,h⟩:=AO h;obtain ⟨p,Z,h⟩:=AO h;have e1:=N r a k1;obtain ⟨e2,U,-⟩:=Et Z;split at h
  . cases h;rw [U];simp only;omega
  . obtain ⟨c,k3,h⟩:=AO h;obtain ⟨e,k4,h⟩:=AO h;have V:=O _ _ k3;obtain ⟨e5,e6,-⟩:=De k4;have X:=Dec.loop N O m _ _ h;rw [U] at V;rw [e6] at X;simp only at V X;omega
def Ig (ps:List PD):∀(d:Nat) (b:Bool) (t:Nd),Dec (Ax ps d b t)
 | 0,b,t,r,r',h=>by simp [Ax] at h
 | d+1,b,.mk k n s l,r,r',h=>by
  have M:∀b t,Dec (AH (Ax ps d) b t):=Dec.block (Ig ps d);unfold Ax at h;by_cases c1:k=52
  . simp only [AG c1] at h;obtain ⟨p,k1,h⟩:=AO h;obtain ⟨c,V,h⟩:=AO h;obtain ⟨X,e2,-⟩:=Et k1;have G:=M _ _ _ _ V;obtain ⟨Y,Z,-⟩:=De h;rw [e2] at G;rw [Z];simp only at G ⊢;omega
  simp only [At c1] at h;by_cases c2:k=53
  . simp only [AG c2] at h;obtain ⟨c,V,h⟩:=AO h;obtain ⟨Y,Z,-⟩:=De V;have e6:=Dec.loop (M b _) (M b _) d _ _ h;rw [Z] at e6;simp only at e6;omega
  simp only [At c2] at h;by_cases c3:k=54
  . simp only [AG c3] at h;obtain ⟨a1,k1,h⟩:=AO h;obtain ⟨a2,V,h⟩:=AO h;obtain ⟨a3,N,h⟩:=AO h;obtain ⟨a4,O,h⟩:=AO h;obtain ⟨a5,U,h⟩:=AO h;obtain ⟨a6,k6,h⟩:=AO h;obtain ⟨X,rfl⟩:=B7 k1;obtain ⟨-,rfl⟩:=Dw N;have G:=M _ _ _ _ O;obtain ⟨Y,rfl⟩:=B7 U;obtain ⟨-,rfl⟩:=Dw h;simp only at G ⊢;omega
  simp only [At c3] at h;by_cases c4:k=55
  . simp only [AG c4] at h;obtain ⟨a1,k1,h⟩:=AO h;obtain ⟨a3,N,h⟩:=AO h;obtain ⟨a4,O,h⟩:=AO h;obtain ⟨a5,U,h⟩:=AO h;obtain ⟨X,rfl⟩:=B7 k1;obtain ⟨-,rfl⟩:=Dw N;have G:=M _ _ _ _ O;obtain ⟨Y,rfl⟩:=B7 U;obtain ⟨-,rfl⟩:=Dw h;simp only at G ⊢;omega
  simp only [At c4] at h;by_cases c5:k=50\/k=51
  . simp only [AG c5] at h;obtain ⟨a1,k1,h⟩:=AO h;obtain ⟨a3,N,h⟩:=AO h;obtain ⟨a4,O,h⟩:=AO h;obtain ⟨a5,U,h⟩:=AO h;obtain ⟨X,rfl⟩:=B7 k1;obtain ⟨-,rfl⟩:=Dw N;have G:=M _ _ _ _ O;obtain ⟨Y,rfl⟩:=B7 U;obtain ⟨-,rfl⟩:=Dw h;simp only at G ⊢;omega
  . simp only [At c5] at h;obtain ⟨a1,k1,h⟩:=AO h;obtain ⟨X,rfl⟩:=B7 k1;obtain ⟨-,rfl⟩:=Dw h;simp only;omega
def Xx (k x y:Int):0<=(EI k x y).2:=by
 have h:∀(c:Prop) [Decidable c] (a b:Int×Int),0<=a.2->0<=b.2->0<=(if c then a else b).2:=λc _ a b G M=>by split<;>assumption
 unfold EI UO
 repeat' (first|apply h|exact mh _|decide)
def Xy (k x:Int):0<=(EJ k x).2:=by
 unfold EJ
 repeat' split
 all_goals simp
def bT (at_:lB->Option (List Int)):∀(N:Nat) (t:Nd),t.size<N->0<=(AW at_ t).2
 | 0,_,h=>by omega
 | N+1,.mk k n s l,h=>by
  have G:∀x∈l,0<=(AW at_ x).2:=λx Y=>by
   have:=DJ Y;simp only [Nd.size] at h;exact bT at_ N x Ab
  unfold AW;by_cases M:k=1
  . simp [M]
  rw [At M];by_cases O:k=2
  . rw [AG O];split
    . simp
    . split<;>simp
  rw [At O];by_cases U:k=3
  . rw [AG U];split
    . simp
    . split
      . have:=G _ (i8.2 rfl);split
        . exact this
        . split<;>simp
      . simp
  rw [At U];by_cases V:k=4
  . rw [AG V];split
    . simp
    . split<;>simp
  rw [At V];by_cases X:k=5
  . rw [AG X];split<;>simp
  rw [At X];split
  . have:=G _ (i8.2 rfl);split
    . exact this
    . exact Xy _ _
  . rename_i x y;have Z:=G x AN;have h2:=G y AN;split
    . exact Z
    . split
      . exact h2
      . exact Xx _ _ _
  . simp
def Tg (at_:lB->Option (List Int)) (t:Nd):0<=(AW at_ t).2:=bT at_ _ t (Nat.lt_succ_self _)
def RA (at_:lB->Option (List Int)) (t:Nd):0<=(Bf at_ t).2:=by
 unfold Bf;split
 . simp
 . split
   . exact Tg _ _
   . simp
def cY (v:List VD) (s:lB) (k:Int):0<=El v s k:=by
 unfold El;split
 . simp
 . split<;>simp
mutual
def Xz (v:List VD):∀t:Nd,0<=t.bad v
 | .mk k n s l=>by
  unfold Nd.bad;split
  . exact cY _ _ _
  . exact OB v l
def OB (v:List VD):∀l:List Nd,0<=Fh v l
 | []=>by simp [Fh]
 | t::r=>by
  unfold Fh;split
  . exact Xz v t
  . exact OB v r
end
def ZL (st:Stp) (k:Int) (s:lB) (l:List Nd):0<=(st.exec k s l).1:=by
 unfold Stp.exec;simp only;have h:=RA st.look (l.getD 0 (.mk 0 0 [] []));have G:0<=(if k=43 then Bf st.look (l.getD 1 (.mk 0 0 [] [])) else if 40<=k/\k<=42 then AW st.look (l.getD 1 (.mk 0 0 [] [])) else (0,0)).2:=by
  split
  . exact RA _ _
  . split
    . exact Tg _ _
    . simp
 generalize (if k=43 then Bf st.look (l.getD 1 (.mk 0 0 [] [])) else if 40<=k/\k<=42 then AW st.look (l.getD 1 (.mk 0 0 [] [])) else (0,0))=r at *;generalize Bf st.look (l.getD 0 (.mk 0 0 [] []))=a at *;split
 . exact h
 split
 . exact G
 unfold nh mP
 repeat' split
 all_goals simp
def ZM (st:Stp) (k n:Int) (s:lB) (l:List Nd):0<=(st.run1 k n s l).1:=by
 unfold Stp.run1;split
 . simp
 split
 . exact Xz _ _
 . exact ZL _ _ _ _
def RB (st:Stp) (v:VD) (x:Int):0<=(st.opens v x).1:=by unfold Stp.opens;split<;>simp
def OC (st:Stp) (s:lB) (x:Int):0<=(st.closes s x).1:=by
 unfold Stp.closes;simp only
 repeat' split
 all_goals simp
def RD (f:Frm):∀(ps:List VD) (h:List lB),0<=(BS f ps h).1
 | [],_=>by simp [BS]
 | _::_,[]=>by simp [BS]
 | v::r,s::q=>by
  unfold BS;split
  . simp
  . split
    . simp
    . exact RD f r q
def VG (st:Stp) (ps:List VD) (h:List lB):0<=(st.enters ps h).1:=by
 unfold nr;split
 . simp
 split
 . exact RD _ _ _
 . split<;>simp
def VH (st:Stp):0<=(st.leaves).1:=by unfold nj;split<;>simp
def Fine {α β:Type} (f:α->Except Int β):Prop:= ∀a,f a≠.error (-1)
def Eg:Fine A6:=λr=>by unfold A6;split<;>simp
def G7 {f:Stp->Int×Stp} (h:∀st,0<=(f st).1):Fine (Cy f):=λr=>by
 unfold Cy;have:=h r.st;split
 . simp only [ne_eq,Except.error.injEq];omega
 . simp
def Jp (t:Nd):Fine (BF t):=λr=>by
 unfold BF;have:=Tg r.st.look t;split
 . simp only [ne_eq,Except.error.injEq];omega
 . simp
def Fine.bind {α β γ:Type} {f:α->Except Int β} {k:β->Except Int γ} (h:Fine f) (G:Fine k):Fine (λa=>(f a).bind k):=λa=>by
 cases e:f a with
 | error x=>have:=h a;rw [e] at this;simpa [i6,e] using this
 | ok v=>simpa [i6,e] using G v
def Jq (t:Nd):Fine (BK t):=λr=>by
 unfold BK;exact Fine.bind Eg (λr=>Fine.bind (Jp t) (λv=>by simp) r) r
def Ih (t:Nd) (q:Bool):Fine (Bj t q):=Fine.bind (Jq t) (λp=>by split<;>simp)
def DP {x:Except Int α} {k:α->Except Int β} (h:x≠.error (-1)) (G:∀v,x = .ok v->k v≠.error (-1)):x.bind k≠.error (-1):=by
 cases x with
 | error e=>simpa [i6] using h
 | ok v=>simpa [i6] using G v rfl
def OD {F:Nat->Nd->Rn->Except Int Rn} (M:∀d V t,d<=V->LeX (F d t) (F V t)) (G:∀d t,Dec (F d t)) (m:Nat):∀(l:List Nd),(∀t∈l,∀r,r.rem<=m -> ∃d,F d t r≠.error (-1)) -> ∀r:Rn,r.rem<=m -> ∃d,Ei (F d) l r≠.error (-1)
 | [],_,r,_=>⟨0,by simp [Ei]⟩
 | t::l,h,r,Z=>by
  obtain ⟨N,U⟩:=h t AN r Z;cases e:F N t r with
  | error x=>
   refine ⟨N,?_⟩;simp only [Ei,e,i6];rw [e] at U;simpa using U
  | ok X=>
   obtain ⟨O,Y⟩:=OD M G m l (λx hx=>h x (by simp [hx])) X (by have:=G _ _ _ _ e;omega);refine ⟨max N O,?_⟩;simp only [Ei];rw [M N (max N O) t Ab r U,e];simp only [i6];rw [LeX.row l (λx _=>M O (max N O) x Ab) X Y];exact Y
def LD {F:Nat->Bool->Nd->Rn->Except Int Rn} (N:∀d M b t,d<=M->LeX (F d b t) (F M b t)) (G:∀d b t,Dec (F d b t)) (m:Nat) (b:Bool) (t:Nd) (h:∀x∈t.kids,∀r,r.rem<=m -> ∃d,F d b x r≠.error (-1)) (r:Rn) (U:r.rem<=m):∃d,AH (F d) b t r≠.error (-1):=by
 unfold AH;exact OD (F:=λd=>F d b) (λd M t h=>N d M b t h) (λd t=>G d b t) m _ (λx O=>h x (by split at O<;>simpa using O)) r U
def M3 {B1 B2:Nat->Rn->Except Int Rn} {test entry:Nd} (U:∀d X,d<=X->LeX (B1 d) (B1 X)) (V:∀d X,d<=X->LeX (B2 d) (B2 X)) (Y:∀d,Dec (B1 d)) (Z:∀d,Dec (B2 d)) (m:Nat)
 (h1:∀r,r.rem<=m -> ∃d,B1 d r≠.error (-1)) (h2:∀r,r.rem<=m -> ∃d,B2 d r≠.error (-1)):∀(q:Nat) (r:Rn),r.rem<=q->r.rem<=m -> ∃d,Cg (B1 d) (B2 d) test entry d r≠.error (-1)
 | q,r,hq,hr=>by
  obtain ⟨G,k1⟩:=h1 r hr;have key:∀d,G<=d->B1 d r=B1 G r:=λd h=>U G d h r k1
  cases e1:B1 G r with
  | error x=>
   refine ⟨G+1,?_⟩;rw [e1] at k1;simp only [Cg,key (G+1) Ab,e1,i6];simpa using k1
  | ok a=>
   have s1:=Y _ _ _ e1;cases e2:BK test a with
   | error x=>
    refine ⟨G+1,?_⟩;have:=Jq test a;rw [e2] at this;simp only [Cg,key (G+1) Ab,e1,e2,i6];simpa using this
   | ok p=>
    obtain ⟨s2,s3,-⟩:=Et e2;have s4:p.2.rem<r.rem:=by rw [s3];simp only;omega
    cases hp:p.1 with
    | true=>
     refine ⟨G+1,?_⟩;simp only [Cg,key (G+1) Ab,e1,e2,i6,hp,if_true];simp
    | false=>
     obtain ⟨M,k2⟩:=h2 p.2 Ab;have N:∀d,M<=d->B2 d p.2=B2 M p.2:=λd h=>V M d h _ k2
     cases e3:B2 M p.2 with
     | error x=>
      refine ⟨max G M+1,?_⟩;rw [e3] at k2;simp only [Cg,key (max G M+1) Ab,e1,e2,i6,hp,N (max G M+1) Ab,e3];simpa using k2
     | ok c=>
      have s5:=Z _ _ _ e3;cases e4:Bj entry false c with
      | error x=>
       refine ⟨max G M+1,?_⟩;have:=Ih entry false c;rw [e4] at this;simp only [Cg,key (max G M+1) Ab,e1,e2,i6,hp,N (max G M+1) Ab,e3,e4];simpa using this
      | ok g=>
       obtain ⟨s6,s7,-⟩:=De e4;have s8:g.rem<r.rem:=by rw [s7];simp only;omega
       match q,hq with
       | 0,hq=>omega
       | q+1,hq=>
        obtain ⟨O,k3⟩:=M3 U V Y Z m h1 h2 q g Ab Ab;refine ⟨max (max G M) O+1,?_⟩;simp only [Cg,key (max (max G M) O+1) Ab,e1,e2,i6,hp,N (max (max G M) O+1) Ab,e3,e4];have:=LeX.loop (test:=test) (entry:=entry) (U O (max (max G M) O+1) Ab) (V O (max (max G M) O+1) Ab) O (max (max G M) O) Ab g k3;simp only [jv,if_false];rw [this];exact k3
def DQ {x:Except Int α} {K:Nat->α->Except Int Rn} (h:x≠.error (-1)) (G:∀v,x = .ok v -> ∃d,K d v≠.error (-1)):∃d,x.bind (K d)≠.error (-1):=by
 cases x with
 | error e=>exact ⟨0,by simpa [i6] using h⟩
 | ok v=>exact G v rfl
def Th (ps:List PD):∀(m:Nat) (b:Bool) (t:Nd) (r:Rn),r.rem<=m -> ∃d,Ax ps d b t r≠.error (-1):=by
 intro m
 induction m with
 | zero=>
  intro b t r h;refine ⟨1,?_⟩;obtain ⟨k,n,s,l⟩:=t;have e:A6 r = .error 18:=by unfold A6;rw [AG Ab]
  unfold Ax;simp only [BK,Bj,e,i6]
  repeat' split
  all_goals simp
 | succ m IH=>
  intro b t r h;obtain ⟨k,n,s,l⟩:=t;have X:∀(b:Bool) (t:Nd) (r:Rn),r.rem<=m -> ∃d,AH (Ax ps d) b t r≠.error (-1):=λb t r O=>
   LD (F:=λd=>Ax ps d) (λd d' b t h=>KX ps b t h) (λd b t=>Ig ps d b t) m b t (λx _ r O=>IH b x r O) r O
  have U:∀G,A6 r = .ok G->G.rem<=m:=λG V=>by
   obtain ⟨-,rfl⟩:=B7 V;simp only;omega
  by_cases Y:k=52
  . obtain ⟨d,M⟩:=DQ (K:=λd (p:Bool×Rn)=>(AH (Ax ps d) b (if p.1 then Bu l 1 else Bu l 2) p.2).bind (Bj (if b then Bu l 0 else Bu l (l.length-1)) p.1)) (Jq (if b then Bu l (l.length-1) else Bu l 0) r) (λp hp=>by
     obtain ⟨-,N,-⟩:=Et hp;obtain ⟨d,M⟩:=X b (if p.1 then Bu l 1 else Bu l 2) p.2 (by rw [N];simp only;omega);exact ⟨d,DP M (λv _=>Ih _ _ v)⟩)
    exact ⟨d+1,by simp only [Ax,AG Y];exact M⟩
  by_cases Z:k=53
  . obtain ⟨d,M⟩:=DQ (K:=λd (p:Rn)=>Cg (AH (Ax ps d) b (Bu l 1)) (AH (Ax ps d) b (Bu l 2)) (if b then Bu l 0 else Bu l (l.length-1)) (if b then Bu l (l.length-1) else Bu l 0) d p) (Ih (if b then Bu l (l.length-1) else Bu l 0) true r) (λp hp=>by
     obtain ⟨-,N,-⟩:=De hp;exact M3 (B1:=λd=>AH (Ax ps d) b (Bu l 1)) (B2:=λd=>AH (Ax ps d) b (Bu l 2)) (λd d' h=>LeX.blockN h b _) (λd d' h=>LeX.blockN h b _) (λd=>Dec.block (Ig ps d) b _) (λd=>Dec.block (Ig ps d) b _) m (λr O=>X b _ r O) (λr O=>X b _ r O) p.rem p (iW _) (by rw [N];simp only;omega))
    exact ⟨d+1,by simp only [Ax,At Y,AG Z];exact M⟩
  by_cases c3:k=54
  . obtain ⟨d,M⟩:=DQ (K:=λd (r:Rn)=>(BF (if b then Bu l (l.length-1) else Bu l 0) r).bind λv=>(Cy (·.opens ⟨s,1,0⟩ v) r).bind λr=>(AH (Ax ps d) b (Bu l 1) r).bind λr=>
     (A6 r).bind λr=>(BF (if b then Bu l 0 else Bu l (l.length-1)) r).bind λv=>Cy (·.closes s v) r) (Eg r) (λG V=>by
     have hm:=U G V;refine DQ (K:=λd v=>(Cy (·.opens ⟨s,1,0⟩ v) G).bind λr=>(AH (Ax ps d) b (Bu l 1) r).bind λr=>
      (A6 r).bind λr=>(BF (if b then Bu l 0 else Bu l (l.length-1)) r).bind λv=>Cy (·.closes s v) r) (Jp _ G) (λv _=>?_)
     refine DQ (K:=λd r=>(AH (Ax ps d) b (Bu l 1) r).bind λr=>(A6 r).bind λr=>(BF (if b then Bu l 0 else Bu l (l.length-1)) r).bind λv=>Cy (·.closes s v) r) (G7 (λst=>RB st _ _) G) (λr2 N=>?_);obtain ⟨-,rfl⟩:=Dw N;obtain ⟨d,M⟩:=X b (Bu l 1) ⟨(G.st.opens ⟨s,1,0⟩ v).2,G.rem⟩ hm;exact ⟨d,DP M (λv _=>DP (Eg v) (λu _=>DP (Jp _ u) (λx _=>G7 (λst=>OC st _ _) u)))⟩)
    exact ⟨d+1,by simp only [Ax,At Y,At Z,AG c3];exact M⟩
  by_cases c4:k=55
  . obtain ⟨d,M⟩:=DQ (K:=λd (r:Rn)=>(Cy (·.opens ⟨s,3,0⟩ 0) r).bind λr=>(AH (Ax ps d) b (Bu l 0) r).bind λr=>(A6 r).bind (Cy (·.closes s 0))) (Eg r) (λG V=>by
     have hm:=U G V;refine DQ (K:=λd r=>(AH (Ax ps d) b (Bu l 0) r).bind λr=>(A6 r).bind (Cy (·.closes s 0))) (G7 (λst=>RB st _ _) G) (λr2 N=>?_);obtain ⟨-,rfl⟩:=Dw N;obtain ⟨d,M⟩:=X b (Bu l 0) ⟨(G.st.opens ⟨s,3,0⟩ 0).2,G.rem⟩ hm;exact ⟨d,DP M (λv _=>DP (Eg v) (λu _=>G7 (λst=>OC st _ _) u))⟩)
    exact ⟨d+1,by simp only [Ax,At Y,At Z,At c3,AG c4];exact M⟩
  by_cases c5:k=50\/k=51
  . obtain ⟨d,M⟩:=DQ (K:=λd (r:Rn)=>(Cy (·.enters (ps.getD ((Cf ps s).getD 0) ⟨[],[],.mk 0 0 [] []⟩).params (l.map mZ)) r).bind λr=>(AH (Ax ps d) (b != decide (k=51)) (ps.getD ((Cf ps s).getD 0) ⟨[],[],.mk 0 0 [] []⟩).body r).bind λr=>(A6 r).bind (Cy (·.leaves))) (Eg r) (λG V=>by
     have hm:=U G V;refine DQ (K:=λd r=>(AH (Ax ps d) (b != decide (k=51)) (ps.getD ((Cf ps s).getD 0) ⟨[],[],.mk 0 0 [] []⟩).body r).bind λr=>(A6 r).bind (Cy (·.leaves))) (G7 (λst=>VG st _ _) G) (λr2 N=>?_);obtain ⟨-,rfl⟩:=Dw N;obtain ⟨d,M⟩:=X (b != decide (k=51)) (ps.getD ((Cf ps s).getD 0) ⟨[],[],.mk 0 0 [] []⟩).body ⟨(G.st.enters (ps.getD ((Cf ps s).getD 0) ⟨[],[],.mk 0 0 [] []⟩).params (l.map mZ)).2,G.rem⟩ hm;exact ⟨d,DP M (λv _=>DP (Eg v) (λu _=>G7 VH u))⟩)
    exact ⟨d+1,by simp only [Ax,At Y,At Z,At c3,At c4,AG c5];exact M⟩
  . refine ⟨1,?_⟩;simp only [Ax,At Y,At Z,At c3,At c4,At c5];exact DP (Eg r) (λu _=>G7 (λst=>ZM st _ _ _ _) u)
def cellOk (x:Int×Int) (xs:List Int):Prop:=(x.1=1/\xs.length=1)\/(x.1=2/\(xs.length:Int)=x.2/\xs.length<=1000000)\/(x.1=3/\xs.length<=1000)
def cellOk.le {x:Int×Int} (h:cellOk x xs):xs.length<=1000000:=by
 rcases h with ⟨-,h⟩|⟨-,h⟩|⟨-,h⟩<;>omega
structure FrmWF (K:List (Int×Int)) (f:Frm):Prop where
 len:f.vars.length=f.cells.length
 loc:f.locals<=f.vars.length
 kind:∀(i:Nat) (v:VD) (c:Nat),f.vars[i]? = some v->f.cells[i]? = some c->K[c]? = some (v.kind,v.len)
structure Stp.WF (K:List (Int×Int)) (m:Nat) (st:Stp):Prop where
 len:st.heap.length=K.length
 base:FrmWF K st.base
 calls:∀f∈st.calls,FrmWF K f
 cell:∀(c:Nat) (x:Int×Int),K[c]? = some x->cellOk x (st.items c)
 nc:st.calls.length<=100
 vb:∀f∈st.base::st.calls,f.vars.length<=m
def DX {l:List α} {x:α} (h:x∈l.dropLast):x∈l:=(List.dropLast_sublist l).subset h
def IB (st:Stp):st.cur∈st.base::st.calls:=by
 unfold Stp.cur;rcases jF st.calls with h|⟨l,f,h⟩<;>rw [h]<;>simp
def FrmWF.lt {K:List (Int×Int)} (h:FrmWF K f) (N:c∈f.cells):c<K.length:=by
 obtain ⟨i,M,rfl⟩:=List.getElem_of_mem N;have:=h.kind i _ _ (iE (by rw [h.len];exact M)) (iE M);rcases i7 f.cells[i] K.length with G|G
 . exact G
 . rw [iR G] at this;cases this
section
variable {K:List (Int×Int)}
def Stp.WF.all' (h:st.WF K m):∀f∈st.base::st.calls,FrmWF K f:=λf G=>by
 rcases iU.1 G with rfl|G
 . exact h.base
 . exact h.calls f G
def Stp.WF.cur (h:st.WF K m):FrmWF K st.cur:=h.all' _ (IB st)
def Stp.WF.curm (h:st.WF K m):st.cur.vars.length<=m:=h.vb _ (IB st)
def DY {s:lB}:∀ {l:List VD} {i:Nat},BR s l=some i->i<l.length
 | [],i,h=>by cases h
 | v::r,i,h=>by
  unfold BR at h;split at h
  . rename_i j G;cases h;have:=DY G;simp only [iM];omega
  . split at h
    . cases h;simp
    . cases h
def Jr (s:lB):∀l:List VD,Eb l s=(BR s l).bind (l[·]?)
 | []=>rfl
 | v::r=>by
  have G:=Jr s r;unfold Eb at G ⊢;unfold BR;rw [kI,mz,G];cases h:BR s r with
  | none=>by_cases M:v.name=s<;>simp [M]
  | some i=>simp [iE (DY h)]
def Dl {s:lB}:∀ {l:List VD} {i:Nat},BR s l=some i -> ∃v,l[i]? = some v/\v.name=s
 | [],i,h=>by cases h
 | v::r,i,h=>by
  unfold BR at h;split at h
  . rename_i j G;cases h;obtain ⟨x,M,N⟩:=Dl G;exact ⟨x,by simpa using M,N⟩
  . split at h
    . rename_i O;cases h;exact ⟨v,rfl,O⟩
    . cases h
def Ti {v:List VD} (h:El v s k=0):∃i x,BR s v=some i/\v[i]? = some x/\x.kind=k:=by
 unfold El at h;rw [Jr] at h;cases e:BR s v with
 | none=>rw [e] at h;simp at h
 | some i=>
  rw [e] at h;obtain ⟨x,G,-⟩:=Dl e;simp only [kU,G] at h;refine ⟨i,x,rfl,G,?_⟩;split at h
  . assumption
  . cases h
def Stp.WF.use (h:st.WF K m) (Y:El st.cur.vars s k=0):∃i c x,BR s st.cur.vars=some i/\st.cur.cells[i]? = some c/\st.cellD s=c/\st.look s=some (st.items c)/\c<st.heap.length/\K[c]? = some x/\x.1=k/\cellOk x (st.items c):=by
 obtain ⟨i,x,M,O,Z⟩:=Ti Y;have hi:=DY M;have N:=h.cur;have G:i<st.cur.cells.length:=by rw [<-N.len];exact hi
 have U:=iE G;have V:=N.kind i x _ O U;have X:st.cur.cell s=some st.cur.cells[i]:=by unfold Frm.cell;rw [M];simp [O]
 refine ⟨i,st.cur.cells[i],(x.kind,x.len),M,U,?_,?_,?_,V,Z,h.cell _ _ V⟩
 . unfold Stp.cellD;rw [X];rfl
 . unfold Stp.look;rw [X];rfl
 . rw [h.len];exact N.lt (iS G)
def Stp.WF.look_le (h:st.WF K m) (G:st.look s=some xs):xs.length<=1000000:=by
 unfold Stp.look at G;cases e:st.cur.cell s with
 | none=>rw [e] at G;cases G
 | some c=>
  rw [e] at G;cases G;unfold Frm.cell at e;cases e1:BR s st.cur.vars with
  | none=>rw [e1] at e;cases e
  | some i=>
   rw [e1] at e;simp only [kU] at e;obtain ⟨x,M,-⟩:=Dl e1;exact (h.cell _ _ (h.cur.kind i x c M e)).le
def Stp.WF.same {st':Stp} (h:st.WF K m) (N:st'.heap.length=st.heap.length) (M:st'.base=st.base) (G:st'.calls=st.calls) (O:∀c x,K[c]? = some x->cellOk x (st'.items c)):st'.WF K m:=
 ⟨N.trans h.len,M▸h.base,G▸h.calls,O,G▸h.nc,by rw [M,G];exact h.vb⟩
def cellOk.len {x:Int×Int} (h:cellOk x xs) (e:ys.length=xs.length):cellOk x ys:=by unfold cellOk at h ⊢;rw [e];exact h
def CQ (st:Stp) (c:Nat) (xs:List Int) (h:Nat):(st.all c xs).items h=if h=c/\c<st.heap.length then xs else st.items h:=by
 unfold Stp.all m6;simp only [iK];by_cases G:h=c
 . subst G;by_cases M:h<st.heap.length
   . simp [M]
   . simp [M]
 . simp [G,jy (l8 G)]
def F8 (st:Stp) (c i:Nat) (v:Int) (G:Nat):((st.put c i v).items G).length=(st.items G).length:=by
 unfold Stp.put;rw [CQ];split
 . rename_i h;rw [h.1];simp
 . rfl
def Stp.WF.put (h:st.WF K m) (c i:Nat) (v:Int):(st.put c i v).WF K m:=
 h.same (by simp [Stp.put,Stp.all]) rfl rfl (λG x M=>(h.cell G x M).len (F8 st c i v G))
def Stp.WF.tapes (h:st.WF K m) (a b:List Int):({ st with tin:=a,tout:=b }:Stp).WF K m:=h.same rfl rfl rfl h.cell
def Stp.WF.all (h:st.WF K m) {c:Nat} {x:Int×Int} {xs:List Int} (M:K[c]? = some x) (N:cellOk x xs):(st.all c xs).WF K m:=
 h.same (by simp [Stp.all]) rfl rfl (λO U G=>by
  rw [CQ];split
  . rename_i e;rw [e.1,M] at G;cases G;exact N
  . exact h.cell O U G)
def Stp.WF.transfer (h:st.WF K m) (k:Int) (c i:Nat):(st.transfer k c i).2.WF K m:=by
 have G:=λv=>h.put c i v
 unfold mP
 repeat' split
 all_goals first|exact h|exact (G _).tapes _ _
def Stp.WF.move (h:st.WF K m) {d:Nat} {x:Int×Int} (G:K[d]? = some x) (M:x.1=3) (k:Int) (c i:Nat):(st.move k c i d).2.WF K m:=by
 have O:=h.cell d x G;have U:(st.items d).length<=1000:=by rcases O with ⟨N,-⟩|⟨N,-⟩|⟨-,N⟩<;>omega
 unfold nh;split
 . split
   . exact h
   . exact (h.all G (iH (iH ⟨M,by simp;omega⟩))).put _ _ _
 . split
   . exact h
   . split
     . exact h
     . exact (h.put _ _ _).all G (iH (iH ⟨M,by simp;omega⟩))
def Stp.WF.exec (h:st.WF K m) {k:Int} {s:lB} (l:List Nd) (G:(k=44\/k=45)->El st.cur.vars s 3=0):(st.exec k s l).2.WF K m:=by
 unfold Stp.exec;simp only;generalize (if k=43 then Bf st.look (l.getD 1 (.mk 0 0 [] [])) else if 40<=k/\k<=42 then AW st.look (l.getD 1 (.mk 0 0 [] [])) else (0,0))=r;split
 . exact h
 split
 . exact h
 split
 . exact h
 split
 . exact h.put _ _ _
 split
 . split
   . exact h
   . exact (h.put _ _ _).put _ _ _
 split
 . rename_i M;obtain ⟨i,c,x,-,-,N,-,-,O,U,-⟩:=h.use (G M);rw [N];exact h.move O U _ _ _
 . exact h.transfer _ _ _
def Ko {v:List VD} {n:Int} (h:(Nd.mk k n s l).bad v=0):(CI k≠0->El v s (CI k)=0)/\Fh v l=0:=by
 unfold Nd.bad at h;by_cases G:CI k≠0/\El v s (CI k)≠0
 . rw [AG G] at h;exact absurd h G.2
 . rw [At G] at h;exact ⟨λN=>by
    by_cases M:El v s (CI k)=0
    . exact M
    . exact absurd ⟨N,M⟩ G,h⟩
def Cn {v:List VD} (h:Fh v (t::l)=0):t.bad v=0/\Fh v l=0:=by
 unfold Fh at h;by_cases G:t.bad v≠0
 . rw [AG G] at h;exact absurd h G
 . rw [At G] at h;exact ⟨Ab,h⟩
def Stp.WF.run1 (h:st.WF K m) (k n:Int) (s:lB) (l:List Nd):(st.run1 k n s l).2.WF K m:=by
 unfold Stp.run1;split
 . exact h
 split
 . exact h
 . rename_i G;have:=(Ko (n:=n) (Decidable.not_not.1 G)).1;refine h.exec l (λM=>?_);have e:CI k=3:=by unfold CI;rcases M with rfl|rfl<;>decide
   rw [e] at this;exact this B9
def M4 {st:Stp} {g:Frm} (h:g∈(st.setCur f).base::(st.setCur f).calls):g=f\/g∈st.base::st.calls:=by
 unfold mV at h;split at h
 . rcases iU.1 h with h|h
   . exact iG h
   . exact iH (js _ h)
 . rcases iU.1 h with h|h
   . exact iH (by simp only at h;rw [h];simp)
   . rcases jD.1 h with h|h
     . exact iH (js _ (DX h))
     . exact iG (by simpa using h)
def Stp.WF.setCur (h:st.WF K m) {f:Frm} (U:FrmWF K f) {m':Nat} (V:f.vars.length<=m') (M:m<=m'):(st.setCur f).WF K m':=by
 have key:∀g∈(st.setCur f).base::(st.setCur f).calls,FrmWF K g/\g.vars.length<=m':=λg G=>by
  rcases M4 G with rfl|G
  . exact ⟨U,V⟩
  . exact ⟨h.all' g G,jM (h.vb g G) M⟩
 have N:(st.setCur f).calls.length=st.calls.length:=by
  unfold mV;split
  . rfl
  . rename_i X;have:=List.length_pos_iff.2 X;simp only [iX,lq,iM,ji];omega
 have O:(st.setCur f).heap=st.heap:=by unfold mV;split<;>rfl
 refine ⟨by rw [O];exact h.len,(key _ AN).1,λg G=>(key g (by simp [G])).1,λc x Y=>?_,by rw [N];exact h.nc,λg G=>(key g G).2⟩;have:(st.setCur f).items c=st.items c:=by unfold m6;rw [O]
 rw [this];exact h.cell c x Y
def FrmWF.more (h:FrmWF K f) (x:Int×Int):FrmWF (K++[x]) f:=⟨h.len,h.loc,λi v c M G=>by
 have:=h.kind i v c M G;have N:c<K.length:=h.lt (jh G);rw [iN N];exact this⟩
def Stp.WF.more (h:st.WF K m) {x:Int×Int} {xs:List Int} (N:cellOk x xs):({ st with heap:=st.heap++[xs] }:Stp).WF (K++[x]) m:=by
 refine ⟨by simp [h.len],h.base.more x,λf O=>(h.calls f O).more x,λc y G=>?_,h.nc,h.vb⟩;unfold m6;simp only [iK];rcases lk c K.length with M|M|M
 . rw [iN M] at G;rw [iN (by rw [h.len];exact M)];have:=h.cell c y G;unfold m6 at this;simpa only [iK] using this
 . subst M;rw [iY (iW _)] at G;rw [iY (by rw [h.len];exact iW _)];simp only [kf,ja,iL] at G;subst G;rw [h.len];simpa using N
 . rw [iR (by simp;omega)] at G;cases G
def Stp.WF.opens (h:st.WF K m) {v:VD} (N:v.kind=1\/v.kind=3) (x:Int):∃X,(st.opens v x).2.WF X (m+1):=by
 unfold Stp.opens;split
 . exact ⟨K,h.len,h.base,h.calls,h.cell,h.nc,λf V=>Nat.le_succ_of_le (h.vb f V)⟩
 . have M:=h.cur;have Y:cellOk (v.kind,v.len) (if v.kind=1 then [x] else []):=by
    rcases N with N|N
    . rw [AG N];exact iG ⟨N,rfl⟩
    . rw [At Ab];exact iH (iH ⟨N,AN⟩)
   have Z:=h.more Y;have V:FrmWF (K++[(v.kind,v.len)]) ⟨st.cur.vars++[v],st.cur.cells++[st.heap.length],st.cur.locals+1⟩:=by
    refine ⟨by simp [M.len],by have:=M.loc;simp;omega,λi u c G O=>?_⟩;simp only at G O;rcases lk i st.cur.vars.length with U|U|U
    . rw [iN U] at G;rw [iN (by rw [<-M.len];exact U)] at O;exact (M.more _).kind i u c G O
    . subst U;rw [iY (iW _)] at G;rw [iY (by rw [M.len];exact iW _),M.len] at O;simp only [kf,ja,iL] at G O;subst G O;rw [h.len,iY (iW _)];simp
    . rw [iR (by simp;omega)] at G;cases G
   have G:=Z.setCur V (m':=m+1) (by have:=h.curm;simp;omega) Ab;refine ⟨K++[(v.kind,v.len)],?_⟩;have e:({ st.setCur ⟨st.cur.vars++[v],st.cur.cells++[st.heap.length],st.cur.locals+1⟩ with heap:=st.heap++[if v.kind=1 then [x] else []] }:Stp)=({ st with heap:=st.heap++[if v.kind=1 then [x] else []] }:Stp).setCur ⟨st.cur.vars++[v],st.cur.cells++[st.heap.length],st.cur.locals+1⟩:=by
    generalize (if v.kind=1 then [x] else [])=q;unfold mV;by_cases M:st.calls=[]<;>simp [M]
   rw [e];exact G
def Stp.WF.closes (h:st.WF K m) (s:lB) (x:Int):(st.closes s x).2.WF K m:=by
 unfold Stp.closes;simp only;split
 . exact h
 split
 . exact h
 . rename_i O U;have N:=h.cur;refine h.setCur ⟨by simp [N.len],by have:=N.loc;simp;omega,λi v c G M=>?_⟩ (by have:=h.curm;simp;omega) (iW _);simp only [lh] at G M;split at G
   . split at M
     . exact N.kind i v c G M
     . cases M
   . cases G
def RE {f:Frm}:∀(ps:List VD) (G:List lB),ps.length=G.length->(BS f ps G).1=0->(BS f ps G).2.length=ps.length /\ ∀(i:Nat) (v:VD) (c:Nat),ps[i]? = some v->(BS f ps G).2[i]? = some c -> ∃(j:Nat) (u:VD),f.vars[j]? = some u/\f.cells.getD j 0=c/\u.kind=v.kind/\u.len=v.len
 | [],_,_,_=>⟨by simp [BS],λi v c h=>by simp at h⟩
 | _::_,[],h,_=>by cases h
 | v::r,s::q,V,h=>by
  unfold BS at h ⊢;cases e:BR s f.vars with
  | none=>rw [e] at h;cases h
  | some j=>
   rw [e] at h;simp only at h ⊢;by_cases M:(f.vars.getD j ⟨[],0,0⟩).kind≠v.kind\/(f.vars.getD j ⟨[],0,0⟩).len≠v.len
   . rw [AG M] at h;cases h
   . rw [At M] at h ⊢;obtain ⟨k1,X⟩:=RE r q (by simpa using V) h;obtain ⟨u,U,-⟩:=Dl e;refine ⟨by simp [k1],λi w c N O=>?_⟩;cases i with
     | zero=>
      simp only [ja,iL] at N O;subst N O;have Y:f.vars.getD j ⟨[],0,0⟩=u:=by rw [iK,U];rfl
      rw [Y] at M;refine ⟨j,u,U,rfl,?_,?_⟩<;>omega
     | succ i=>exact X i w c (by simpa using N) (by simpa using O)
def Stp.WF.enters (h:st.WF K m) {ps:List VD} (Z:ps.length<=m) (O:List lB):(st.enters ps O).2.WF K m:=by
 unfold nr;split
 . exact h
 split
 . exact h
 split
 . exact h
 . rename_i h1 h2 h3;obtain ⟨k1,k2⟩:=RE (f:=st.cur) ps O Ab Ab;have Y:=h.cur;have hf:FrmWF K ⟨ps,(BS st.cur ps O).2,0⟩:=⟨k1.symm,iT _,λi v c G N=>by
    obtain ⟨j,u,U,h7,h8,h9⟩:=k2 i v c G N;have hj:j<st.cur.cells.length:=by
     rw [<-Y.len];rcases i7 j st.cur.vars.length with V|V
     . exact V
     . rw [iR V] at U;cases U
    have X:st.cur.cells[j]? = some c:=by rw [<-h7,iK,iE hj];rfl
    rw [<-h8,<-h9];exact Y.kind j u c U X⟩
   refine ⟨h.len,h.base,λf M=>?_,h.cell,by simp;omega,λf M=>?_⟩
   . rcases jD.1 M with G|G
     . exact h.calls f G
     . rw [i8.1 G];exact hf
   . rcases iU.1 M with G|G
     . exact h.vb f (by simp only at G;rw [G];simp)
     . rcases jD.1 G with N|N
       . exact h.vb f (by simp [N])
       . rw [i8.1 N];exact Z
def Stp.WF.leaves (h:st.WF K m):(st.leaves).2.WF K m:=by
 unfold nj;split
 . exact h
 . exact ⟨h.len,h.base,λf M=>h.calls f (DX M),h.cell,by have:=h.nc;simp;omega,λf M=>h.vb f (by
    rcases iU.1 M with G|G
    . simp only at G;rw [G];simp
    . simp only at G;simp [DX G])⟩
end
def M5 {α β:Type} {f:α->List β} {k:Nat} (G:∀x,(f x).length=k):∀(l:List α) (i:Nat) (x:α),l[i]? = some x->((l.flatMap f).drop (i*k)).take k=f x
 | [],i,x,h=>by simp at h
 | y::r,0,x,h=>by
  simp only [ja,iL] at h;subst h;rw [kj,lQ,ku,List.take_append_of_le_length (by rw [G];exact iW _),kk (by rw [G];exact iW _)]
 | y::r,i+1,x,h=>by
  rw [kj,show (i+1)*k=(f y).length+i*k by rw [G,kH];omega,<-List.drop_drop,List.drop_left];exact M5 G r i x (by simpa using h)
def G8 {e:TypeId} {l:List VD} (h:Own w 0 e 3 v l.length (l.flatMap VD.cells)) (M:∀k,v.ownBlock=some k->S k):∃a c,v = .slice a l.length c/\VDs S w l a:=by
 rcases h.row with ⟨rfl,G,-⟩|⟨g,cap,rfl,-,N,O⟩
 . exact ⟨none,0,by rw [G],iG (List.length_eq_zero_iff.1 G)⟩
 . refine ⟨_,cap,rfl,iH ⟨g,0,rfl,M g N,λi x U=>?_⟩⟩;have:=O.sub (i*3) 3;rw [M5 (f:=VD.cells) (k:=3) (λ_=>rfl) l i x U] at this;exact this
def Ptrs (κ:Nat->Nat) (w:wD) (l:List Nat) (a:oA):Prop:=l=[] \/ ∃g,a=some ⟨g,0,none⟩/\Row w ⟨g,0,none⟩ (l.map (KC κ))
def M6 {e:TypeId} {l:List Nat} (h:Own w 0 e 1 v l.length (l.map (KC κ))):∃a c,v = .slice a l.length c/\Ptrs κ w l a:=by
 rcases h.row with ⟨rfl,G,-⟩|⟨g,cap,rfl,-,N,M⟩
 . exact ⟨none,0,by rw [G],iG (List.length_eq_zero_iff.1 G)⟩
 . exact ⟨_,cap,rfl,iH ⟨g,rfl,M⟩⟩
def Ptrs.get {l:List Nat} {a:oA} (h:Ptrs κ w l a) (G:l[i]? = some c):∃g,a=some ⟨g,0,none⟩/\Row w ⟨g,0+i*1,none⟩ [KC κ c]:=by
 rcases h with rfl|⟨g,rfl,O⟩
 . simp at G
 . refine ⟨g,rfl,?_⟩;have:=O.sub (i*1) 1;rw [lf] at this ⊢;have M:i<l.length:=by
    rcases i7 i l.length with N|N
    . exact N
    . rw [iR N] at G;cases G
   have e:((l.map (KC κ)).drop i).take 1=[KC κ c]:=by
    rw [jd (by simpa using M)];have:l[i]=c:=by rw [iE M] at G;exact iQ G
    simp [this]
   rw [e] at this;exact this
def CX (l:List VD) (s:lB):Int:=match BR s l with
 | some i=>(i:Int)
 | none=> -1
def Js (s:lB) (v:VD):∀l:List VD,BR s (l++[v])=if v.name=s then some l.length else BR s l
 | []=>by simp only [kF,BR,ji]
 | u::r=>by
  rw [kp];unfold BR;rw [Js s v r];by_cases h:v.name=s
  . simp [h]
  . simp [h]
def RF {l:List VD} {j:Nat} (G:j<l.length) (s:lB):CX (l.take (j+1)) s=if l[j].name=s then (j:Int) else CX (l.take j) s:=by
 have e:l.take (j+1)=l.take j++[l[j]]:=by rw [List.take_add_one,iE G];rfl
 unfold CX;rw [e,Js];by_cases h:l[j].name=s
 . rw [AG h,AG h];simp;omega
 . rw [At h,At h]
def M7 (l:List VD) (hl:l.length<=1000000) (s:lB) (S:nP) (a:oA) (c:Nat) (vc Z:Value) (O U:Nat) (w:wD) (hr:Row w ⟨O,U,none⟩ [.slice a l.length c,vc,Z]) (M:VDs S w l a) :
 Calls prog 211 #[.pointer (some ⟨O,U,none⟩),str s] w λe w'=>e = .returned (.int .i64 (CX l s))/\Ext w w':=by
 have X:=Ne w;have M:=M.ltV;refine Ad func211 ntmps211 rfl rfl (eK ?_);refine C1 (AL rfl rfl (iO _ Ab)) (C1 Pa (cT ?_));refine Au ?_;refine AP (ι:=Nat) (λj=>[(0,.pointer (some ⟨O,U,none⟩)),(1,str s),(5,.int .i64 ((j:Int)-1))])
  (λj w'=>j<=l.length/\VDs (· < w.heap.size) w' l a/\Row w' ⟨O,U,none⟩ [.slice a l.length c,vc,Z]/\Ext w w'/\CX l s=CX (l.take j) s)
  (λj=>j) l.length sB ⟨iW _,M,hr,X,by rw [iZ]⟩ ?_
 rintro j w1 ⟨hj,M,hb,X,h⟩;cases j with
 | zero=>
  have e0:CX l s = -1:=by rw [h];rfl
  rw [e0];refine kR ?_;exact ⟨rfl,X⟩
 | succ j=>
  have G:j<l.length:=by omega
  obtain ⟨kb,ko,rfl,kS,N⟩:=M.get (by intro e;subst e;simp at G);have r0:=N j l[j] (iE G);rw [RF G s] at h;generalize l[j]=v at *;have V:(((j+1:Nat):Int)-1)=(j:Int):=by omega
  obtain ⟨vn,vk,vl⟩:=v;replace r0:Row w1 ⟨kb,ko+j*3,none⟩ [str vn,.int .u8 vk,.int .i64 vl]:=r0;dsimp only at h;rw [V]
  focus
   refine eK ?_;refine Az rfl (λY=>?_) (λY=>?_);refine kR ?_;rotate_left;refine eK ?_;refine C1 (AL rfl rfl (iO _ Ab)) (C1 Pa (Ak ?_));rotate_left
  . rw [AG Ae] at h;rw [h];exact ⟨rfl,X⟩
  . rw [At Ae] at h;exact AA j sB ⟨Ab,M,hb,X,h⟩ Ab
def ER (G M n sb:Nat) (N:n<=1000) (w:wD) (h:CurP w sb G M n) :
 Calls prog 210 #[pt sb] w λe w'=>e = .returned (.pointer (some ⟨G,M,none⟩))/\Ext w w':=by
 have X:=Ne w;obtain ⟨x,y,z,a,c,O,U,⟨rfl,rfl,rfl⟩|⟨V,rfl,rfl⟩⟩:=h
 . refine Ad func210 ntmps210 rfl rfl ?_;refine kR ?_;exact ⟨rfl,X⟩
 . refine Ad func210 ntmps210 rfl rfl ?_;refine eK ?_;refine C1 (AL rfl rfl (iO _ Ab)) (kR ?_);refine ⟨?_,X⟩;rw [show (0+((n:Int)-1).toNat*3)=(n-1)*3 by omega]
def ZN (k:Int) (w:wD):Calls prog 222 #[.int .u8 k] w λe w'=>e = .returned (.int .u8 (CI k))/\Ext w w':=by
 have X:=Ne w;refine Ad func222 ntmps222 rfl rfl ?_
 focus
  refine eK ?_;refine Az rfl (λh=>?_) (λh=>?_);refine kR ?_;rotate_left;refine eK ?_;refine Az rfl (λG=>?_) (λG=>?_);refine kR ?_;rotate_left;refine eK ?_;refine Az rfl (λM=>?_) (λM=>?_);refine kR ?_;rotate_left;refine eK ?_;refine Az rfl (λN=>?_) (λN=>?_);refine kR ?_;rotate_left;refine eK ?_;refine Az rfl (λO=>?_) (λO=>?_);refine kR ?_;rotate_left;refine eK ?_;refine Az rfl (λU=>?_) (λU=>?_);refine kR ?_;rotate_left;refine kR ?_;rotate_left
 all_goals (refine ⟨?_,X⟩;unfold CI)
 . rw [AG Ab]
 . rw [At Ab,AG Ab]
 . rw [At Ab,At Ab,AG Ab]
 . rw [At Ab,At Ab,AG Ab]
 . rw [At Ab,At Ab,AG Ab]
 . rw [At Ab,At Ab,AG Ab]
 . rw [At Ab,At Ab,At Ab]
section
variable {K:List (Int×Int)}
def ES {st:Stp} (h:c<st.heap.length):st.heap[c]? = some (st.items c):=by
 unfold m6;rw [iK,iE h];rfl
def VI (h:BR s st.cur.vars=none):st.look s=none:=by unfold Stp.look Frm.cell;rw [h];rfl
def VJ (h:BR s st.cur.vars=some i) (G:st.cur.cells[i]? = some c):st.look s=some (st.items c)/\st.cellD s=c:=by
 have e:st.cur.cell s=some c:=by unfold Frm.cell;rw [h];simpa using G
 exact ⟨by unfold Stp.look;rw [e];rfl,by unfold Stp.cellD;rw [e];rfl⟩
def StoreAt.at (h:StoreAt ρ κ w sb st) (O:st.WF K m) (V:BR s st.cur.vars=some i):∃c M N,st.cur.cells[i]? = some c/\c<st.heap.length/\st.look s=some (st.items c)/\st.cellD s=c/\Blk w (κ c) [.slice M (st.items c).length N]/\OwnR ρ (.items c) w (.slice M (st.items c).length N) (st.items c)/\ρ (κ c) = .cell c:=by
 have U:=DY V;have G:i<st.cur.cells.length:=by rw [<-O.cur.len];exact U
 have X:=iE G;obtain ⟨e1,e2⟩:=VJ V X;have Y:st.cur.cells[i]<st.heap.length:=by rw [O.len];exact O.cur.lt (iS G)
 obtain ⟨h1,v,h2,Z⟩:=h.cells _ _ (ES Y);obtain ⟨M,N,rfl⟩:=Z.1.shape;exact ⟨_,M,N,X,Y,e1,e2,h2,Z,h1⟩
def RG (Y:st.WF K m) (hm:m<=1000000) (s:lB) (w:wD) (h:StoreAt ρ κ w sb st) :
 Calls prog 224 #[pt sb,str s] w (LookR ((st.look s).getD []) (st.look s).isSome w):=by
 have X:=Ne w;have af:=Y.curm;have ag:=Y.nc;obtain ⟨fb,fo,pre,post,T,vv,vc,ah,-,U,hf,-⟩:=h.open;obtain ⟨av,cv,rfl,N⟩:=G8 (S:=λ_=>True) hf.v.1 (λ_ _=>trivial);obtain ⟨ac,cc,rfl,aa⟩:=M6 hf.c.1;have G:=U.blk;have HC:=iF (λw1 h=>ER fb fo st.calls.length sb Ab w1 h);cases hl:BR s st.cur.vars with
 | none=>
  have O:=λw1 h1 h2=>M7 st.cur.vars Ab s (λ_=>True) av cv (.slice ac st.cur.cells.length cc) (.int .i64 st.cur.locals) fb fo w1 h1 h2
  rw [show CX st.cur.vars s = -1 by unfold CX;rw [hl]] at O;have O:=iF O;rw [VI hl];generalize st.cur.cells.length=n2 at *;generalize st.cur.vars=vs at *;generalize st.calls.length=nc at *;refine Ad func224 ntmps224 rfl rfl (kC (HC.out _ Ae) ?_);rintro _ w2 ⟨⟨⟩,x1⟩;revert X N G;refine eE x1 ?_;intro X N G;refine kC (O.out _ Ae Ae) ?_;rintro _ w5 ⟨⟨⟩,x4⟩;have X:=X.ext x4;refine kT ?_;exact ⟨none,0,rfl,iG rfl,AN,X⟩
 | some i=>
  have O:=λw1 h1 h2=>M7 st.cur.vars Ab s (λ_=>True) av cv (.slice ac st.cur.cells.length cc) (.int .i64 st.cur.locals) fb fo w1 h1 h2
  rw [show CX st.cur.vars s=(i:Int) by unfold CX;rw [hl]] at O;have O:=iF O;obtain ⟨c,a',c',e1,e2,e3,e4,Z,ho,-⟩:=h.at Y hl;have ab:=Y.look_le e3;obtain ⟨g,rfl,r1⟩:=aa.get e1;have ai:i<st.cur.cells.length:=by
   rcases i7 i st.cur.cells.length with h'|h'
   . exact h'
   . rw [iR h'] at e1;cases e1
  have V:Row w ⟨g,0+(i:Int).toNat*1,none⟩ [KC κ c]:=r1;have M:=ho.1.at;rw [e3];unfold KC at V;generalize κ c=cb at *;generalize st.items c=xs at *;generalize st.cur.cells.length=n2 at *;generalize st.cur.vars=vs at *;generalize st.calls.length=nc at *;refine Ad func224 ntmps224 rfl rfl (kC (HC.out _ Ae) ?_);rintro _ aj ⟨⟨⟩,ad⟩;revert X V M Z N G;refine eE ad ?_;intro X V M Z N G;refine kC (O.out _ Ae Ae) ?_;rintro _ ak ⟨⟨⟩,ae⟩;revert X V M Z G;refine eE ae ?_;intro X V M Z G;refine eK ?_;refine C1 (Pw G) (kT ?_);exact ⟨_,_,rfl,M,ab,X⟩
def cZ (M:st.WF K m) (N:m<=1000000) (s:lB) (w:wD) (h:StoreAt ρ κ w sb st) :
 Calls prog 220 #[pt sb,str s] w (LookR ((st.look s).getD []) (st.look s).isSome w):=by
 have X:=Ne w;have O:=iF (RG M N s w h);generalize (st.look s).isSome=q at *;generalize (st.look s).getD []=xs at *;refine Ad func220 ntmps220 rfl rfl (eK ?_);refine C1 (A1 Ac rfl rfl) (kQ (O.out) ?_);rintro _ w6 ⟨a1,c2,⟨⟩,h3,h4,U⟩;have X:=X.ext U;refine kQ (FF xs Ab _ _ _ Ae) ?_;rintro _ V ⟨a8,c9,⟨⟩,Y,Z,G⟩;have X:=X.ext G;refine kT ?_;exact ⟨_,_,rfl,OwnI.at Ae,Ab,X⟩
def M8 (Z:st.WF K m) (hm:m<=1000000) (s:lB) (hl:BR s st.cur.vars=some i) (w:wD) (h:StoreAt ρ κ w sb st) :
 Calls prog 225 #[pt sb,str s] w λe w'=>e = .returned (.pointer (some ⟨κ (st.cellD s),0,none⟩))/\Ext w w':=by
 have X:=Ne w;have aa:=Z.curm;have ab:=Z.nc;obtain ⟨fb,fo,pre,post,T,vv,vc,ad,-,U,hf,-⟩:=h.open;obtain ⟨av,cv,rfl,N⟩:=G8 (S:=λ_=>True) hf.v.1 (λ_ _=>trivial);obtain ⟨ac,cc,rfl,Y⟩:=M6 hf.c.1;have G:=U.blk;have HC:=iF (λw1 h=>ER fb fo st.calls.length sb Ab w1 h);have hF:=λw1 h1 h2=>M7 st.cur.vars Ab s (λ_=>True) av cv (.slice ac st.cur.cells.length cc) (.int .i64 st.cur.locals) fb fo w1 h1 h2
 rw [show CX st.cur.vars s=(i:Int) by unfold CX;rw [hl]] at hF;have hF:=iF hF;obtain ⟨c,a',c',e1,e2,e3,e4,-⟩:=h.at Z hl;obtain ⟨g,rfl,r1⟩:=Y.get e1;have ae:i<st.cur.cells.length:=by
  rcases i7 i st.cur.cells.length with h'|h'
  . exact h'
  . rw [iR h'] at e1;cases e1
 have V:Row w ⟨g,0+(i:Int).toNat*1,none⟩ [KC κ c]:=r1;rw [e4];clear h hf U Y Z r1 e1 e2 e3 e4;unfold KC at V;generalize κ c=cb at *;generalize st.cur.cells.length=n2 at *;generalize st.cur.vars=vs at *;generalize st.calls.length=nc at *;refine Ad func225 ntmps225 rfl rfl ?_;refine kC (HC.out _ Ae) ?_;rintro _ w2 ⟨⟨⟩,x1⟩;revert X V N G;refine eE x1 ?_;intro X V N G;refine eK ?_;refine Aq (λwz=>Ext w2 wz) 7 (.pure 0 (.pure 1 (.pure 2 (.pure 3 (.pure 4 (.pure 5 (.fork 6 .tail .none))))))) mixed AU (Aa Ag) ?_;intro w4 x5 _;have M:(λwz=>Ext w2 wz) w4:=x5;simp only at M;have O:=G;revert X V N G;refine eE x5 ?_;intro X V N G;refine ⟨M,?_⟩;refine eT ?_;refine Tq rfl (Dr O) (Tq rfl Mv (Tq rfl Mv ?_));refine tC rfl rfl (hF.out _ Ae Ae) ?_;rintro _ af ⟨⟨⟩,x9⟩;revert M X V;refine eE x9 ?_;intro M X V;refine ⟨M,?_⟩;refine Ar rfl ?_;refine kR ?_;exact ⟨rfl,X⟩
end
def ZO (vs:List VD) (hv:vs.length<=1000000) (av:oA) (cv:Nat) (vc nl:Value) (fb fo:Nat) (N:Nat):∀(t:Nd) (S S':nP) (a:oA) (c:Nat) (w:wD),t.size<N->t.size<=1000000000->t.sits S w a->Row w ⟨fb,fo,none⟩ [.slice av vs.length cv,vc,nl]->VDs S' w vs av ->
 Calls prog 216 #[.pointer (some ⟨fb,fo,none⟩),t.val a c] w λe w'=>e = .returned (.int .i64 (t.bad vs))/\Ext w w':=by
 induction N with
 | zero=>intro t S S' a c w h;omega
 | succ N ih=>
  rintro ⟨k,n,s,l⟩ S S' a c w hN hM O U M;have IH:=iF ih;clear ih;simp only [Nd.sits] at O;simp only [Nd.size] at hN hM;have X:=Ne w;have hl:=Cz l;have O:=Ch _ _ O;have M:=M.ltV;have bk:fb<w.heap.size:=Cs (U.at0 rfl);have HF:=iF (λw1 h1=>PJ vs hv s (· < w.heap.size) av cv w1 h1);rw [Nd.bad];change Calls prog _ #[.pointer (some ⟨fb,fo,none⟩),.agg #[.int .u8 k,.int .i64 n,str s,.slice a l.length c]] w _;generalize hq:(Eb vs s).isSome=q at HF;generalize hz:(Eb vs s).getD Xf=z at HF;obtain ⟨zn,zk,zl⟩:=z;have hu:El vs s (CI k)=if q=false then 6 else if zk=CI k then 0 else 7:=by
   unfold El;cases hf:Eb vs s with
   | none=>rw [hf] at hq;subst hq;rfl
   | some v=>rw [hf] at hq hz;subst hq;simp only [kY] at hz;rw [hz];rfl
  rw [hu];clear hq hz hu;generalize hn:CI k=nk at *;have HN:=ZN k;rw [hn] at HN;have HN:=iF HN;refine Ad func216 ntmps216 rfl rfl ?_;refine cS (eB [_,_,_,_] ?_);intro b1 w2 V x5 p6 z7;revert U X O M;refine eE x5 ?_;intro U X O M;refine kC (HN.out _) ?_;rintro _ w9 ⟨⟨⟩,x8⟩;revert V U X O M;refine eY x8 ?_;intro bl V U X O M;refine C1 Pa (cT ?_);refine DE (ι:=Unit) (λ_=>[(0,.pointer (some ⟨fb,fo,none⟩)),(3,pt b1)]) (λ_ w'=>Row w' ⟨fb,fo,none⟩ [.slice av vs.length cv,vc,nl]/\VDs (· < w.heap.size) w' vs av/\rowSits (· < w.heap.size) w' l a/\Blk w' b1 [.int .u8 k,.int .i64 n,str s,.slice a l.length c]/\Ext w w' /\ ¬(nk≠0/\(if q=false then (6:Int) else if zk=nk then 0 else 7)≠0)) ?_ ?_
  . focus
     refine eK ?_;refine BT rfl (λay=>?_) (λay=>?_);refine Aj (Aq (λwz=>Ext w9 wz) 12 (.pure 0 (.pure 1 (.pure 2 (.pure 3 (.pure 4 (.pure 5 (.fork 6 (.pure 7 (.pure 8 (.pure 9 (.fork 10 (.fork 11 .tail .none) .none)))) (.fork 10 (.fork 6 (.pure 7 (.pure 8 (.pure 9 (.fork 11 .tail .none)))) .none) .none)))))))) mixed AU (Aa (Aa Ag)) ?_);intro az ah _;have G:(λwz=>Ext w9 wz) az:=ah;simp only at G;have ai:=V;have aj:=U;revert V U X O M;refine eY ah ?_;intro bm V U X O M;refine ⟨G,?_⟩;refine eT ?_;refine Tq rfl (Ap Ac rfl rfl rfl (λwz hz=>mO (mJ aj hz) rfl)) (Tq rfl Pf (Tq rfl (Db ai) ?_));refine AC rfl (AM AU rfl (HF.out _ Ae) (λ_ _ h=>⟨_,h.1⟩)) rfl ?_ aFh ?kra6;rintro _ bn ⟨⟨⟩,a0⟩;revert G V U X O M;refine eY a0 ?_;intro bo G V U X O M;refine ⟨G,?_⟩;refine eT ?_;refine AC rfl (A2 CC rfl) rfl ?_ aFh Ay;rintro _ a5 ⟨a6,rfl,Z⟩;have ae:=Z.blk;dsimp only at ae;have ak:=Z.ext;have a7:=Z.pos;have a8:=Z.size;revert G V U X O M;refine eE ak ?_;intro G V U X O M;refine ⟨G,?_⟩;refine Cq [_,_,_] [_,_,_] rfl Ac rfl rfl rfl rfl rfl rfl ae rfl rfl ?_ Ay;intro a9 ac;have ba:=ac.blk;have al:=ac.fr;have bb:=ac.size;revert G V U X O M;refine eF al ?_;intro G V U X O M;refine ⟨G,?_⟩;refine Ar rfl (C1 Pa (cT (Aj (cS (C1 Mv (C1 Pt (cT ?_)))))));refine JK rfl (λam=>?_) (λam=>?_);refine kR ?_;rotate_left;refine eK ?_;refine BT rfl (λan=>?_) (λan=>?_);refine kR ?_;rotate_left;refine Ao ?_;rotate_left;refine AC rfl (A2 CC rfl) rfl ?_ aFh Ay;rintro _ bc ⟨bd,rfl,aa⟩;have ab:=aa.blk;dsimp only at ab;have ao:=aa.ext;have be:=aa.pos;have bf:=aa.size;revert G V U X O M;refine eE ao ?_;intro G V U X O M;refine ⟨G,?_⟩;refine tC rfl rfl (HF.out _ Ae) ?_;rintro _ bg ⟨⟨⟩,ap⟩;revert ab G V U X O M;refine eE ap ?_;intro ab G V U X O M;refine ⟨G,?_⟩;refine eT ?_;refine Cq [_,_,_] [_,_,_] rfl Ac rfl rfl rfl rfl rfl rfl ab rfl rfl ?_ Ay;intro bh af;have bi:=af.blk;have aq:=af.fr;revert G V U X O M;refine eF aq ?_;intro G V U X O M;refine ⟨G,?_⟩;refine Ar rfl (C1 Pa (cT (Aj (cS (C1 Mv (C1 Pt (cT ?_)))))))
     refine JK rfl (λar=>?_) (λar=>?_);refine kR ?_;rotate_left;refine eK ?_;refine BT rfl (λau=>?_) (λau=>?_);refine kR ?_;rotate_left;refine Ao ?_;rotate_left;refine Ao ?_;rotate_left
    all_goals first
     | exact ⟨by rw [AG (show q=false by assumption),AG ⟨Ae,B9⟩],X⟩
     | exact ⟨by rw [At (show ¬q=false by simp [*]),At (show ¬zk=nk by assumption),AG ⟨Ae,B9⟩],X⟩
     | exact BQ () sB ⟨Ae,Ae,Ae,Ae,X,λh=>h.1 Ae⟩
     | exact BQ () sB ⟨Ae,Ae,Ae,Ae,X,λh=>h.2 (by rw [At (show ¬q=false by simp [*]),AG (show zk=nk by assumption)])⟩
  clear O U M X HF HN;rintro-w1 ⟨U,M,O,hb,X,aw⟩;rw [At aw];clear aw hn;refine Aj (cS (C1 Pf (C1 (Pl hb) (C1 Pz (C1 Mv (cT ?_))))));clear V hb;refine Au ?_;refine AP (ι:=Nat) (λj=>[(0,.pointer (some ⟨fb,fo,none⟩)),(33,.slice a l.length c),(34,.int .i64 l.length),(35,.int .i64 j)])
   (λj w'=>j<=l.length/\Row w' ⟨fb,fo,none⟩ [.slice av vs.length cv,vc,nl]/\VDs (· < w.heap.size) w' vs av/\rowSits (· < w.heap.size) w' l a/\Ext w w'/\Fh vs l=Fh vs (l.drop j))
   (λj=>l.length-j) 0 sB ⟨iT _,U,M,O,X,rfl⟩ ?_
  clear U M O X;rintro j w1 ⟨hj,U,M,O,X,Y⟩;by_cases ad:j<l.length
  . obtain ⟨kb,ko,rfl,bp,ag⟩:=BI O (by intro e;subst e;simp at ad);obtain ⟨xa,xc,rx,sx⟩:=ag j l[j] (iE ad);have bq:=Ej (iS ad);rw [jd ad,Fh] at Y;clear ag;generalize l[j]=x at *;have HX:=iF (IH.out x (· < w.heap.size) (· < w.heap.size) xa xc);generalize a1:x.bad vs=xb at *;obtain ⟨xk,xn,xs,xl⟩:=x;replace rx:Row w1 ⟨kb,ko+j*4,none⟩ [.int .u8 xk,.int .i64 xn,str xs,.slice xa xl.length xc]:=rx;clear a1
    focus
     refine eK ?_;refine xA [_,_,_,_] ?_;intro br bs a2;refine eI [_,_,_,_] a2 ?_;intro bt bu a3 _ _;revert U M X O sx;refine eE a3 ?_;intro U M X O sx;refine kC (HX.out _ Ab Ab Ae Ae Ae) ?_;rintro _ bj ⟨⟨⟩,a4⟩;revert U M X O;refine eE a4 ?_;intro U M X O;refine eK ?_;refine BT rfl (λax=>?_) (λax=>?_);refine kR ?_;rotate_left;refine Ao (Ah (Ai (Al (C1 V7 (C1 Mv (Ak ?_))))));rotate_left
    . exact ⟨by rw [Y,AG Ae],X⟩
    . refine AA (j+1) sB ⟨Ab,U,M,O,X,?_⟩ Ab;rw [Y,At (λh=>h Ae)]
  . have:j=l.length:=by omega
    subst this;rw [ly] at Y;rw [Y];refine kR ?_;exact ⟨rfl,X⟩
def ZP (k:Int) (hk:40<=k/\k<=49) (w:wD):Calls prog 215 #[.int .u8 k] w λe w'=>e = .returned (.bool true)/\Ext w w':=by
 have X:=Ne w;refine Ad func215 ntmps215 rfl rfl ?_
 focus
  refine eK ?_;refine Az rfl (λh=>?_) (λh=>?_);refine kR ?_;rotate_left;refine eK ?_;refine Az rfl (λG=>?_) (λG=>?_);refine kR ?_;rotate_left;refine eK ?_;refine Az rfl (λM=>?_) (λM=>?_);refine kR ?_;rotate_left;refine eK ?_;refine Az rfl (λN=>?_) (λN=>?_);refine kR ?_;rotate_left;refine eK ?_;refine Az rfl (λO=>?_) (λO=>?_);refine kR ?_;rotate_left;refine eK ?_;refine Az rfl (λU=>?_) (λU=>?_);refine kR ?_;rotate_left;refine eK ?_;refine Az rfl (λV=>?_) (λV=>?_);refine kR ?_;rotate_left;refine eK ?_;refine Az rfl (λY=>?_) (λY=>?_);refine kR ?_;rotate_left;refine eK ?_;refine Az rfl (λZ=>?_) (λZ=>?_);refine kR ?_;rotate_left;refine kR ?_;rotate_left
 all_goals first
  | exact ⟨rfl,X⟩
  | (exfalso;omega)
def VK (k:Int) (Z:¬(k=50\/k=51)) (w:wD):Calls prog 214 #[.int .u8 k] w λe w'=>e = .returned (.int .u8 (Bb k))/\Ext w w':=by
 have X:=Ne w;refine Ad func214 ntmps214 rfl rfl ?_
 focus
  refine eK ?_;refine Az rfl (λh=>?_) (λh=>?_);refine kR ?_;rotate_left;refine eK ?_;refine Az rfl (λG=>?_) (λG=>?_);refine kR ?_;rotate_left;refine eK ?_;refine Az rfl (λM=>?_) (λM=>?_);refine kR ?_;rotate_left;refine eK ?_;refine Az rfl (λN=>?_) (λN=>?_);refine kR ?_;rotate_left;refine eK ?_;refine Az rfl (λO=>?_) (λO=>?_);refine kR ?_;rotate_left;refine eK ?_;refine Az rfl (λU=>?_) (λU=>?_);refine kR ?_;rotate_left;refine eK ?_;refine Az rfl (λV=>?_) (λV=>?_);refine kR ?_;rotate_left;refine eK ?_;refine Az rfl (λY=>?_) (λY=>?_);refine kR ?_;rotate_left;refine kR ?_;rotate_left
 all_goals (refine ⟨?_,X⟩;unfold Bb)
 all_goals first
  | (subst k;rfl)
  | (repeat rw [At Ab])
def VL (ρ:Nat->Rl) (w w':wD) (r:Rl):Nat->Rl:=λb=>if w.heap.size<=b/\b<w'.heap.size then r else ρ b
def XA (ρ:Nat->Rl) (w w':wD) (r:Rl):Ro ρ (VL ρ w w' r) w:=λb h=>At Ab
def Uk (ρ:Nat->Rl) (r:Rl) (h:w.heap.size<=b) (G:b<w'.heap.size):VL ρ w w' r b=r:=AG ⟨h,G⟩
def OE {r:Rl} (h:Fresh ρ w) (G:w.heap.size<=w'.heap.size):Fresh (VL ρ w w' r) w':=λb M=>by
 unfold VL;rw [At Ab];exact h b Ab
section
variable {l:Sl} {tab:Tab} {zt:EA}
def Fu {t e k cap:Nat} {zs:lV} {p:Addr} (T:TabOk P tab) (Z:Ct P zt) (ht:AD tab t=some (.slice e,sb)) (hE:AD tab e=some (sE,sz)) (hz:CS zt e=some zs) (hzl:zs.length=sz)
 (hby:Dt P e=true) (hsz:jg 0 sz=true) (hx:ev l x=some v) (hy:ev l y=some (.slice (some p) m cap)) (hown:Own w b e sz v k cs) (hr:Row w p us) (hul:us.length=m*sz) (hu:us.all mW=true) (hkm:k+m<=100000000000) (hm0:0<k+m) (hb:b<=w.heap.size) :
 BG P n l (.call ⟨.builtin .append,#[x,y],#[t,t]⟩) ty w (Ge λo w'=> ∃g cap,o = .slice (some ⟨g,0,none⟩) (k+m) cap/\Own w' b e sz (.slice (some ⟨g,0,none⟩) (k+m) cap) (k+m) (cs++us)/\Fr (λk=>v.ownBlock=some k) w w'/\(v.ownBlock=some g\/w.heap.size<=g)/\g<w'.heap.size):=by
 have hd:=Ea (P:=P) (n:=n) (l:=l) (ty:=ty) T Z ht hE hz hzl hby hsz hx hy hown hr hul hu hkm hm0 hb;unfold BG at hd ⊢;intro a dst pos after g next Q ha hn c;refine hd a dst pos after g next Q ha (λv' w' hG=>?_) (λw' hG=>hG.elim);obtain ⟨g1,g2,g,cap',g3,g4⟩:=hG;exact hn v' w' ⟨g,cap',g3,g3▸g1,g2,g4,(g1.blk (k:=g) (by rw [g3];rfl)).2⟩
end
section
variable {j:Nat}
def AddR (ρ:Nat->Rl) (κ:Nat->Nat) (j fb fo:Nat) (pre post:lV) (T:TypeId) (nl:Value) (f:Frm) (w:wD):Ending->wD->Prop:=λe w'=> ∃vv vc ρ',e = .returned (.tuple #[])/\Ro ρ ρ' w/\Fresh ρ' w'/\Win w' fb fo [vv,vc,nl] pre post T/\FrameOk ρ' κ w' j f vv vc/\Fr (Ft ρ j fb) w w'
def AddR.ret {N:Value} (h:AddR ρ κ j n m cs us T N f w e w'):∃v,e = .returned v:=by
 obtain ⟨_,_,_,h,-⟩:=h;exact ⟨_,h⟩
def Ul (f:Frm) (v:VD) (c Z fo:Nat) (pre post:lV) (T:TypeId) (vv vc nl:Value) (w:wD) (hF:FrameOk ρ κ w j f vv vc) (hw:Win w Z fo [vv,vc,nl] pre post T) (hr:ρ Z≠.vars j/\ρ Z≠.cels j) (an:Fresh ρ w) (hv:f.vars.length<=1000000) (hc:f.cells.length<=1000000) :
 Calls prog 158 #[.pointer (some ⟨Z,fo,none⟩),v.val,KC κ c] w (AddR ρ κ j Z fo pre post T nl ⟨f.vars++[v],f.cells++[c],f.locals⟩ w):=by
 obtain ⟨⟨ov,rv⟩,X,rc⟩:=hF;have a1:Z<w.heap.size:=hw.1.blk.lt;have F:=mI (Ft ρ j Z) w;have n1:∀k,vv.ownBlock=some k->ρ k = .vars j/\k<w.heap.size:=λk G=>⟨rv k G,(ov.blk G).2⟩
 have n2:∀k,vc.ownBlock=some k->ρ k = .cels j/\k<w.heap.size:=λk G=>⟨rc k G,(X.blk G).2⟩
 have d1:∀k,vv.ownBlock=some k -> ¬k=Z:=λk G e=>by subst e;exact hr.1 (n1 k G).1
 have d2:∀k,vc.ownBlock=some k -> ¬k=Z:=λk G e=>by subst e;exact hr.2 (n2 k G).1
 have d3:∀k,vc.ownBlock=some k -> ¬vv.ownBlock=some k:=λk G e=>by have:=(n1 k e).1;rw [(n2 k G).1] at this;cases this
 obtain ⟨vn,vk,vl⟩:=v;generalize hN:f.vars.length=N at *;generalize hM:f.cells.length=M at *;generalize hV:f.vars.flatMap VD.cells=V at *;generalize hC:f.cells.map (KC κ)=C at *;change Calls prog _ #[_,.agg #[str vn,.int .u8 vk,.int .i64 vl],pt (κ c)] w _;refine Ad func158 ntmps158 rfl rfl ?_;have av:=iF an;clear an;refine cS (eB [_,_,_] ?_);intro b1 w2 h4 x5 p6 z7;revert hw F ov X;refine eE x5 ?_;intro hw F ov X;refine eK ?_;refine Aq (λwz=>Fr ((λk=>vv.ownBlock=some k)) w2 wz) 8 (.pure 0 (.pure 1 (.pure 2 (.pure 3 (.pure 4 (.pure 5 (.fork 6 (.fork 7 .tail .none) .none))))))) mixed AU (Aa Ag) ?_;intro w8 x9 _;have O:(λwz=>Fr ((λk=>vv.ownBlock=some k)) w2 wz) w8:=mG x9;simp only at O;have ao:=h4;have ap:=hw;revert hw F ov X;refine eY x9 ?_;intro a2 hw F ov X;refine ⟨O,?_⟩;refine eT ?_;refine Tq rfl (Ap Ac rfl rfl rfl (λwz hz=>mO (mT (Win.blk ap) hz (λh=>d1 _ h rfl)) rfl)) (Tq rfl (xL [_,_,_] (λwz hz=>(mH ao hz (λh=>by have:=(n1 _ h).2;omega)))) ?_);refine AC rfl (xS [_,_,_]) rfl ?_ aFh Ay;rintro _ ah ⟨a3,rfl,ad,a4⟩;have a5:=ad.blk;have aw:=ad.ext;have a6:=ad.pos;have a7:=ad.size;revert O hw F ov X;refine eE aw ?_;intro O hw F ov X;refine ⟨O,?_⟩;refine AC rfl (Fu Ac CC rfl rfl rfl rfl AU rfl rfl rfl Ae (mS Ae) rfl rfl Ab Ab (iT _)) rfl ?_ aFh Ay;rintro _ ai ⟨ae,ax,rfl,U,aa,af,a8⟩
 have a9:=aa.size;have O:=mL O aa (λk G=>iG G);have hw:=Win.fr hw aa (λh=>d1 _ h rfl);have F:=mL F aa (λk G=>iG (iH (iG (n1 k G).1)));clear ov;have X:=mY X aa (λk G Y=>d3 k G Y);refine ⟨O,?_⟩;refine Ar rfl ?_;refine eK ?_;refine A7 (Fs Z fo [_,_,_] Ac rfl rfl rfl rfl rfl rfl Ae rfl rfl) (BJ ?_);rintro _ ba ⟨ab,aj,bb⟩;have U:=mY U aj (λk G Y=>by (obtain rfl:=iQ (show some ae=some k from G);rcases af with h|h;exact d1 _ h Y;omega));clear hw;have F:=mL F aj (λk G=>iG (iG G));have X:=mY X aj (λk G Y=>d2 k G Y);refine eK ?_;refine Do Ac rfl rfl rfl (Win.blk ab) rfl rfl (C1 Mv ?_);refine Aw (xS [_]) rfl ?_ aFh;rintro _ ak ⟨bc,rfl,ag,bd⟩;have be:=ag.blk;have ay:=ag.ext;have bf:=ag.pos;have bg:=ag.size;revert ab U F X;refine eE ay ?_;intro ab U F X;refine Aw (Fu Ac CC rfl rfl rfl rfl AU rfl rfl rfl Ae (mS Ae) rfl rfl Ab Ab (iT _)) rfl ?_ aFh;rintro _ al ⟨aq,az,rfl,ar,ac,au,bh⟩;have bi:=ac.size;have ab:=Win.fr ab ac (λh=>d2 _ h rfl);have U:=mY U ac (λk G Y=>by (obtain rfl:=iQ (show some ae=some k from G);rcases af with h|h;exact d3 _ Y h;have:=(n2 _ Y).2;omega));have F:=mL F ac (λk G=>iG (iH (iH (n2 k G).1)));clear X ac;refine eK ?_;refine A7 (CA Z fo 1 [_,_,_] Ac rfl rfl rfl rfl rfl rfl Ae rfl rfl) (BJ ?_);rintro _ bj ⟨a0,am,bk⟩;have ar:=mY ar am (λk G Y=>by (obtain rfl:=iQ (show some aq=some k from G);rcases au with h|h;exact d2 _ h Y;omega));have U:=mY U am (λk G Y=>by (obtain rfl:=iQ (show some ae=some k from G);rcases af with h|h;exact d1 _ h Y;omega));have F:=mL F am (λk G=>iG (iG G));refine Ak (Bm rfl ?_)
 have e1:∀b,VL (VL ρ ah ai (.vars j)) ak al (.cels j) b=if ak.heap.size<=b/\b<al.heap.size then .cels j else if ah.heap.size<=b/\b<ai.heap.size then .vars j else ρ b:=λb=>rfl
 refine ⟨_,_,VL (VL ρ ah ai (.vars j)) ak al (.cels j),rfl,λb hb=>?_,λb hb=>?_,a0,⟨⟨?_,λk G=>?_⟩,?_,λk G=>?_⟩,F⟩
 . rw [e1,At Ab,At Ab]
 . rw [e1,At Ab,At Ab];exact av.out b Ab
 . rw [kB,hV,iX,hN];assumption
 . obtain rfl:=iQ (show some ae=some k from G);rw [e1];rcases af with h|h
   . have:=(n1 _ h).2;rw [At Ab,At Ab];exact (n1 _ h).1
   . rw [At Ab,AG Ab]
 . rw [jJ,hC,iX,hM];assumption
 . obtain rfl:=iQ (show some aq=some k from G);rw [e1];rcases au with h|h
   . have:=(n2 _ h).2;rw [At Ab,At Ab];exact (n2 _ h).1
   . rw [AG Ab]
end
def PT (ops:Array Oper) (wr:List Nat) (i:Nat):Prop:= ∀(listed:Array Bool) (j:Nat) (o:Oper),DC ops listed->listed.getD j true=false->wr.contains j=true->ops[j]? = some o->(∀e∈o.after,jN .any e=true->listed.getD e.on false=true)->listed.getD i false=true
def PU (ops:Array Oper) (E wr:List Nat) (j0:Nat):Bool:=(E.all λi=>jg i ops.size&&(List.range' (i+1) (ops.size-(i+1))).any λm=>(ke m j0||E.contains m)&&JL ops m i)&&wr.all λj=>ke j j0||JL ops j j0
def M9 {ops:Array Oper} {E wr:List Nat} (h:PU ops E wr n=true) (hE:E.contains i=true):PT ops wr i:=by
 simp only [PU,iJ,jr] at h;obtain ⟨h1,h2⟩:=h;intro G j o V ag hj ho N;have M:=h2 j (by simpa using hj);simp only [jI] at M;have O:∀o0,ops[n]? = some o0 -> ∀e∈o0.after,jN .any e=true->G.getD e.on false=true:=by
  intro o0 U;rcases M with M|M
  . have ac:=jq M;subst ac;rw [ho] at U;obtain rfl:=iQ U;exact N
  . obtain ⟨oj,e',X,ad,ae,Y⟩:=ED M;rw [ho] at X;obtain rfl:=iQ X;have hl:=N e' ad ae;rw [Y] at hl;exact V n o0 U hl
 have key:∀d i,ops.size-i<=d->E.contains i=true->G.getD i false=true:=by
  intro d
  induction d with
  | zero=>
   intro i hd hi;have:=jc (h1 i (by simpa using hi)).1;omega
  | succ d ih=>
   intro i hd hi;have hg:=h1 i (by simpa using hi);simp only [kW,lH,iJ,jI] at hg;obtain ⟨-,m,hm,Z,hw⟩:=hg;obtain ⟨om,e,aa,he,hb,ab⟩:=ED hw;rcases Z with Z|Z
   . have af:=jq Z;subst af;have:=O om aa e he hb;rwa [ab] at this
   . have hl:=ih m Ab Z;have:=V m om aa hl e he hb;rwa [ab] at this
 exact key _ i (iW _) hE
section
variable {ops:Array Oper} {Q:Exit->Act->wD->Prop} {S S2:wD->Prop} {E wr:List Nat} {K:Nat}
def KY (P:Program) (ops:Array Oper) (Q:Exit->Act->wD->Prop) (S S2:wD->Prop) (wr:List Nat) (K:Nat):Nat->Array Bool->Act->wD->Prop
 | 0,listed,a,w=>jj .any ops listed=[]/\Q .normal a w
 | fuel+1,listed,a,w=>
  (jj .any ops listed=[]->Q .normal a w) /\
  ∀i∈jj .any ops listed,wpOp P ops Q i (λa' w'=>(wr.contains i=false->(S w->S w')/\(S2 w->S2 w'))/\(wr.contains i=true->i<K->S2 w')/\KY P ops Q S S2 wr K fuel (listed.setIfInBounds i true) a' w') a w
def Na:∀(G:Nat) (M:Array Bool) (a:Act) (w:wD),KY P ops Q S S2 wr K G M a w->wpAny P .any ops Q G M a w
 | 0,_,_,_,h=>h
 | G+1,_,_,_,h=>⟨h.1,λi N=>wpOp_mono (λO w' U=>Na G _ O w' U.2.2) (h.2 i N)⟩
def Kq {oi:Oper} {T:wD->Prop} (hi:ops[i]? = some oi) (hT:(PT ops wr i/\T=S)\/(Ek ops K i/\T=S2)) (ae:wr.contains i=false) (ab:∀(j:Nat) (o:Oper) cs b,ops[j]? = some o->o.op≠.select cs b)
 (hQ:∀c a w,Q (.panic c) (a.put oi.dst v) w->Q (.panic c) a w) :
 ∀(M:Nat) (G:Array Bool) (a:Act) (w:wD),DC ops G ->
  (∀j Z,ops[j]? = some Z->j≠i->G.getD j true=false->(∀e∈Z.after,jN .any e=true->e.on≠i)->oi.apart ops Z=true) ->
  i∈jj .any ops G->YieldsIf P ops T oi v a->T w ->
  KY P ops Q S S2 wr K M (G.setIfInBounds i true) (a.put oi.dst v) w->KY P ops Q S S2 wr K (M+1) G a w:=by
 intro M
 induction M with
 | zero=>
  intro G a w _ _ hr hy hS H;refine ⟨λh=>(by rw [h] at hr;cases hr),λj hj=>?_⟩;by_cases N:j=i
  . subst N;exact hy.wpOp hi hS ⟨λ_=>⟨id,id⟩,λe=>(by rw [ae] at e;cases e),H⟩
  . have:=ready_mono hj N;rw [H.1] at this;cases this
 | succ M ih=>
  intro G a w ac U hr hy hS H;refine ⟨λh=>(by rw [h] at hr;cases hr),λj hj=>?_⟩;by_cases N:j=i
  . subst N;exact hy.wpOp hi hS ⟨λ_=>⟨id,id⟩,λe=>(by rw [ae] at e;cases e),H⟩
  . have h1:=H.2 j (ready_mono hj N);obtain ⟨V,Z,X,Y⟩:=mem_ready.1 hj;have O:¬G.getD i false=true:=λhc=>by
     have h0:=(mem_ready.1 hr).1;rcases i7 i G.size with h'|h'
     . simp [h'] at h0 hc;rw [h0] at hc;cases hc
     . simp [ju h'] at hc
    have ah:∀w',(wr.contains j=false->(S w->S w')/\(S2 w->S2 w'))->(wr.contains j=true->j<K->S2 w')->T w':=λw' h' h2=>by
     rcases hT with ⟨ad,rfl⟩|⟨ad,rfl⟩
     . cases hej:wr.contains j
       . exact (h' hej).1 hS
       . exact absurd (ad G j Z ac V hej X Y) O
     . cases hej:wr.contains j
       . exact (h' hej).2 hS
       . rcases i7 j K with h|h
         . exact h2 hej h
         . exact absurd (ad G j Z ac h X Y) O
    have af:∀e∈Z.after,jN .any e=true->e.on≠i:=λe he hb ai=>O (ai▸Y e he hb)
    have h2:=wpOp_putIf X (U j Z X N V af) (λcs b=>ab i oi cs b hi) (λcs b=>ab j Z cs b X) hQ hy h1;have aa:∀k ok,ops[k]? = some ok->k≠i->(G.setIfInBounds j true).getD k true=false ->
     (∀e∈ok.after,jN .any e=true->e.on≠i)->oi.apart ops ok=true:=λk ok hk aj O ak=>by
     refine U k ok hk aj ?_ ak;by_cases ag:j=k
     . subst ag;exact V
     . rw [getD_set_ne true ag] at O;exact O
    refine wpOp_mono (λa' w' h3=>⟨h3.2.1,h3.2.2.1,ih (G.setIfInBounds j true) a' w' (ac.set hj) aa (ready_mono hr (l8 N)) h3.1 (ah w' h3.2.1 h3.2.2.1) ?_⟩) h2;rw [lD _ _ N];exact h3.2.2.2
end
def ScE.okW (ops:Array Oper) (E wr:List Nat) (K:Nat):ScE->Nat->Array Bool->Bool
 | .done,_,listed=>(jj .any ops listed).isEmpty
 | .pure i r,f+1,listed=>E.contains i && !(wr.contains i)&&(jj .any ops listed).contains i&&Region.free .any ops listed i&&ScE.okW ops E wr K r f (listed.setIfInBounds i true)
 | .free i r,f+1,listed=> !(wr.contains i)&&jg i K&&(jj .any ops listed).contains i&&Region.free .any ops listed i&&ScE.okW ops E wr K r f (listed.setIfInBounds i true)
 | .put i r,f+1,listed=>wr.contains i&&(jj .any ops listed==[i])&&ScE.okW ops E wr K r f (listed.setIfInBounds i true)
 | .tail k,f,listed=>jW K k&&ke (f+k) ops.size&&(List.range' k f).all (λj=>wr.contains j)&&Fl ops f k listed
 | _,_,_=>false
def Jt {P:Program} {ops:Array Oper} {Q:Exit->Act->wD->Prop} {S S2:wD->Prop} {wr:List Nat} {K:Nat}:∀(f k:Nat) (G:Array Bool) (a:Act) (w:wD),K<=k->f+k=ops.size->(∀j,k<=j->j<k+f->wr.contains j=true)->Fl ops f k G=true->wpList P ops Q (ops.toList.drop k) a w->KY P ops Q S S2 wr K f G a w
 | 0,k,G,a,w,Z,hf,O,M,h=>by
  have:ops.toList.drop k=[]:=jK (by simp;omega);rw [this] at h;exact ⟨by simpa [Fl] using M,h⟩
 | f+1,k,G,a,w,Z,hf,O,M,h=>by
  simp only [Fl,iJ,beq_iff_eq] at M;have U:k<ops.toList.length:=by simp;omega
  rw [jd U] at h;refine ⟨λe=>absurd (M.1.symm.trans e) AN,λi V=>?_⟩;rw [M.1] at V;simp only [i8] at V;subst V;have Y:=O i (iW _) Ab;have N:∀j,i+1<=j->j<i+1+f->wr.contains j=true:=λj h1 h2=>O j Ab Ab
  have ho:ops[i]? = some ops.toList[i]:=by simp
  unfold wpList at h;unfold wpOp;rw [ho];simp only;split
  . rename_i X;rw [AG X] at h;rcases h with h|h
    . exact iG (Oper.wp_mono (λa' w' h'=>⟨λe=>(by rw [Y] at e;cases e),λ_ e=>by omega,Jt f (i+1) _ a' w' Ab Ab N M.2 h'⟩) h)
    . exact iH h
  . rename_i X;rw [At X] at h;exact ⟨λe=>(by rw [Y] at e;cases e),λ_ e=>by omega,Jt f (i+1) _ _ w Ab Ab N M.2 h⟩
def HTE.anyW {P:Program} {ops:Array Oper} {Q:Exit->Act->wD->Prop} {S S2:wD->Prop} {E wr:List Nat} {K:Nat} (O:∀i,i<K->Ek ops K i) (Y:Region.noSelect ops=true) (V:∀i,E.contains i=true->PT ops wr i) (Z:Dh Q) :
 ∀(s:ScE) (f:Nat) (G:Array Bool) (a:Act) (w:wD),DC ops G->HTE P ops Q S S2 s a w->ScE.okW ops E wr K s f G=true->KY P ops Q S S2 wr K f G a w
 | .done,f,G,a,w,U,h,M=>by
  have X:jj .any ops G=[]:=by simpa [ScE.okW] using M
  cases f with
  | zero=>exact ⟨X,h⟩
  | succ f=>exact ⟨λ_=>h,by rw [X];simp⟩
 | .tail k,f,G,a,w,U,h,M=>by
  simp only [ScE.okW,iJ,jr,lH] at M;exact Jt f k G a w (jc M.1.1.1) (jq M.1.1.2) (λj h1 h2=>M.1.2 j ⟨h1,h2⟩) M.2 h
 | .pure i r,0,G,a,w,U,h,M=>by simp [ScE.okW] at M
 | .pure i r,f+1,G,a,w,U,h,M=>by
  simp only [ScE.okW,iJ,lG] at M;obtain ⟨hS,o,v,ho,hy,X⟩:=h;have hi:ops[i]? = some o:=by simpa using ho
  have N:i∈jj .any ops G:=by simpa using M.1.1.2
  exact Kq (T:=S) hi (iG ⟨V i M.1.1.1.1,rfl⟩) M.1.1.1.2 (kL Y) (λc a w=>Z o.dst v c a w) f G a w U (lA hi M.1.2) N hy hS
   (HTE.anyW O Y V Z r f _ _ w (U.set N) X M.2)
 | .free i r,0,G,a,w,U,h,M=>by simp [ScE.okW] at M
 | .free i r,f+1,G,a,w,U,h,M=>by
  simp only [ScE.okW,iJ,lG] at M;obtain ⟨hS,o,v,ho,hy,X⟩:=h;have hi:ops[i]? = some o:=by simpa using ho
  have N:i∈jj .any ops G:=by simpa using M.1.1.2
  have aa:=jc M.1.1.1.2;exact Kq (T:=S2) hi (iH ⟨O i aa,rfl⟩) M.1.1.1.1 (kL Y) (λc a w=>Z o.dst v c a w) f G a w U (lA hi M.1.2) N hy hS
   (HTE.anyW O Y V Z r f _ _ w (U.set N) X M.2)
 | .put i r,0,G,a,w,U,h,M=>by simp [ScE.okW] at M
 | .put i r,f+1,G,a,w,U,h,M=>by
  simp only [ScE.okW,iJ,beq_iff_eq] at M;obtain ⟨⟨h1,h2⟩,h3⟩:=M;refine ⟨λe=>(by rw [h2] at e;cases e),λj hj=>?_⟩;rw [h2] at hj;simp only [i8] at hj;subst hj;have N:j∈jj .any ops G:=by rw [h2];simp
  exact wpOp_mono (λa' w' h'=>⟨λe=>(by rw [h1] at e;cases e),λ_ _=>h'.1,HTE.anyW O Y V Z r f _ a' w' (U.set N) h'.2 h3⟩) h
def Nb {Q:Exit->Act->wD->Prop} {l:Sl} {G:List Oper} (S S2:wD->Prop) (E wr:List Nat) (j0 K:Nat) (s:ScE) (hm:P.follows .mixedOrders=true) (N:(Region.noSelect G.toArray&&(jW G.length K||I8 G.toArray K)&&PU G.toArray E wr j0&&ScE.okW G.toArray E wr K s G.length (jZ G.length false))=true) (hQ:Dh Q)
 (h:∀w1,Ext w w1->w1.heap=w.heap->Y0 P n G.toArray Q S S2 s l w1):CW P n (.region m G.toArray true) Q l w:=by
 unfold CW;intro a ha;simp only [iJ] at N;have h2:=h w.drew (Ne w).drew rfl;have V:DC G.toArray (jZ G.length false):=λk o _ M=>by
  exfalso;rcases i7 k G.length with X|X
  . simp [X] at M
  . simp [ju,X] at M
 have O:∀i,i<K->Ek G.toArray K i:=by
  by_cases Y:K<G.toArray.size
  . have M:=N.1.1.2;simp only [jI] at M;rcases M with M|M
    . have:=jc M;simp at Y;omega
    . exact DU M Y
  . intro i hi U j o _ hj ho _;have aa:j<G.toArray.size:=(Array.getElem?_eq_some_iff.1 ho).1;omega
 refine wp_region_any hm (Na (S:=S) (S2:=S2) (wr:=wr) (K:=K) _ _ _ _ ?_);have:=HTE.anyW O N.1.1.1 (λi hE=>M9 N.1.2 hE) hQ s G.length (jZ G.length false) a w.drew V (h2 a ha) N.2;simpa using this
def Own.cut {e cap:Nat} {a:oA} (h:Own w b e sz (.slice a n cap) n (cs++us)) (M:cs.length=m*sz) (V:m<=n):Own w b e sz (.slice a m cap) m cs:=by
 obtain ⟨h1,⟨G,N⟩|⟨g,O,cur,G,N,X,h5,Y,Z,h8⟩⟩:=h
 . obtain rfl:m=0:=by omega
   refine ⟨by simpa using M,iG ⟨?_,rfl⟩⟩;rw [<-G,N]
 . simp only [jm] at G;obtain ⟨rfl,-,rfl⟩:=G;refine ⟨by simpa using M,iH ⟨g,cap,cur,rfl,N,X,Ab,Y,Z,?_⟩⟩;have U:=congrArg (List.take (m*sz)) h8;rw [List.take_take,lP (kq _ V),List.take_left' M] at U;exact U
def ZQ (l:List VD):(l.flatMap VD.cells).length=l.length*3:=by
 induction l with
 | nil=>rfl
 | cons v r h=>rw [kj,iX,h];simp;omega
def Own.le {e cap:Nat} {a:oA} (h:Own w b e sz (.slice a n cap) n cs):n<=cap:=by
 obtain ⟨U,⟨G,N⟩|⟨g,M,cur,G,N,V,O,X,Y,Z⟩⟩:=h
 . omega
 . simp only [jm] at G;obtain ⟨-,-,rfl⟩:=G;exact O
section
variable {K:List (Int×Int)}
def StR (ρ:Nat->Rl) (sb:Nat) (st:Stp) (r:Int) (w:wD):Ending->wD->Prop:=λe w'=> ∃ ρ' κ',e = .returned (.int .i64 r)/\Ro ρ ρ' w/\StoreAt ρ' κ' w' sb st/\Fr (λk=>MZ (ρ k)) w w'
def StR.ret {r:Int} (h:StR ρ sb st r w e w'):∃v,e = .returned v:=by
 obtain ⟨_,_,h,-⟩:=h;exact ⟨_,h⟩
def StR.same {r:Int} (h:StoreAt ρ κ w' sb st) (x:Ext w w'):StR ρ sb st r w (.returned (.int .i64 r)) w':=⟨ρ,κ,rfl,Ro.refl _ _,h,mG x⟩
def StoreAt.drop (h:StoreAt ρ κ w sb st):∃N O U ca V tp,Blk w sb [N,O,U,.slice ca st.calls.length V,tp]/\st.calls.length<=V /\
 ∀(l:List Frm) (f:Frm),st.calls=l++[f] -> ∀w',Fr (· = sb) w w'->Blk w' sb [N,O,U,.slice ca l.length V,tp]->StoreAt ρ κ w' sb { st with calls:=l }:=by
 obtain ⟨Y,Z,⟨N,O,cv,tb,cs,h2,h3,X,h5,h6⟩,h7⟩:=h;have aa:∃a c,cv = .slice a st.calls.length c:=by
  rcases X.1.row with ⟨rfl,hn,-⟩|⟨g,cap,rfl,-⟩
  . exact ⟨none,0,by rw [hn]⟩
  . exact ⟨_,_,rfl⟩
 obtain ⟨ca,V,rfl⟩:=aa;refine ⟨N,O,_,ca,V,_,h2,X.1.le,λl f hc w' x hb=>?_⟩;rw [hc] at h5;obtain ⟨ab,vv,vc,rfl,h8,-⟩:=(FramesOk.snoc l 1 f cs).1 h5;have ac:=FramesOk.len _ _ _ h8;have M:∀ {r:Rl},r≠.store -> ∀k,k=sb->ρ k≠r:=λn1 k G e=>by subst G;exact n1 (by rw [<-e,Y])
 have h9:=X.1;rw [hc] at h9;rw [iX,kn] at h9;refine ⟨Y,Z.mv x,⟨N,O,_,tb,ab,hb,h3.move x (λk G=>⟨M AN k G,M AN k G⟩) (Ro.refl _ _) (λ_ _=>rfl),⟨?_,λk G=>X.2 k ?_⟩,FramesOk.move x (Ro.refl _ _) _ _ _ h8 (λk G i _ _=>⟨M AN k G,M AN k G⟩) (λ_ _ _ _=>rfl),h6.move x (λk G=>⟨M AN k G,M AN k G,M AN k G⟩) (Ro.refl _ _)⟩,λc xs hx=>(h7 c xs hx).move x (λk G=>⟨M AN k G,M AN k G⟩) (Ro.refl _ _) rfl⟩
 . exact (h9.cut (m:=l.length) (by rw [ac]) Ab).fr x (λk G e=>by
    subst e;have:=X.2 k (by cases ca<;>exact G);rw [Y] at this;cases this)
 . cases ca<;>exact G
def ZR (hw:st.WF K m) (w:wD) (h:StoreAt ρ κ w sb st) :
 Calls prog 213 #[pt sb] w (StR ρ sb (st.leaves).2 (st.leaves).1 w):=by
 have X:=Ne w;have am:=hw.nc;have Z:=h.role;obtain ⟨bv,bc,an,ca,cc,tp,hb,ao,M⟩:=h.drop;rcases jF st.calls with O|⟨l,f,O⟩
 . have e:st.leaves=(20,st):=by unfold nj;rw [AG (iG O)]
   rw [e];have hn:st.calls.length=0:=by rw [O];rfl
   clear M;generalize st.calls.length=n at *;subst hn;refine Ad func213 ntmps213 rfl rfl ?_;refine eK ?_;refine C1 (A1 Ac rfl rfl) ?_;refine kR ?_;exact StR.same Ae X
 . rw [jU] at O;have N:st.cur=f:=by unfold Stp.cur;rw [O];simp
   obtain ⟨fb,fo,pre,post,T,vv,vc,U,-,V,hf,-⟩:=h.open;have G:=V.blk;have HC:=iF (λw1 h=>ER fb fo st.calls.length sb Ab w1 h);have hn:st.calls.length=l.length+1:=by rw [O];simp
   have ae:st.calls≠[]:=by rw [O];simp
   rw [N] at G;clear hf V;have aa:=iF (M l f O);clear M;have af:((st.calls.length:Int)-1)=(l.length:Int):=by omega
   have ag:l.length<=cc:=by omega
   by_cases h0:0<f.locals
   . have e:st.leaves=(20,st):=by unfold nj;rw [AG (iH (by rw [N];exact h0))]
     rw [e];clear aa;refine Ad func213 ntmps213 rfl rfl ?_;refine eK ?_;refine C1 (A1 Ac rfl rfl) ?_;refine kC (HC.out _ Ae) ?_;rintro _ ap ⟨⟨⟩,ah⟩;revert h X G;refine eE ah ?_;intro h X G;refine eK ?_;refine C1 (Pw G) ?_;refine kR ?_;exact StR.same Ae X
   . have e:st.leaves=(0,{ st with calls:=l }):=by unfold nj;rw [At (by rw [N];intro h;rcases h with h|h;exact ae h;exact h0 h),O];simp
     rw [e];have F:=mI (· = sb) w;refine Ad func213 ntmps213 rfl rfl ?_;refine eK ?_;refine C1 (A1 Ac rfl rfl) ?_;refine kC (HC.out _ Ae) ?_;rintro _ ab ⟨⟨⟩,ai⟩;revert hb U G F;refine eE ai ?_;intro hb U G F;refine eK ?_;refine C1 (Pw G) ?_;refine eK ?_;refine Aq (λwz=>Ext ab wz) 12 (.pure 0 (.pure 1 (.pure 2 (.pure 3 (.pure 4 (.pure 5 (.pure 6 (.pure 7 (.pure 8 (.pure 9 (.pure 10 (.pure 11 .tail)))))))))))) mixed AU (Aa Ag) ?_;intro aj ac _;have Y:(λwz=>Ext ab wz) aj:=ac;simp only at Y;have ak:=hb;revert hb U F;refine eE ac ?_;intro hb U F;refine ⟨Y,?_⟩;refine eT ?_;refine Tq rfl (AL rfl rfl (iO _ Ab)) (Tq rfl (DN Ac rfl rfl rfl rfl af ag) ?_);refine Ar rfl ?_;refine eK ?_;refine eV [_] [_,_,_,_,_] hb ?_;intro aq al ad _;clear hb h G;have F:=F.fr ad Ab;refine kR ?_;exact ⟨ρ,κ,rfl,Ro.refl _ _,aa.out _ F Ae,F.weaken (λk hk=>by subst hk;rw [Z];trivial)⟩
def ZS (hw:st.WF K m) (hm:m<=1000000) (s:List UInt8) (x:Int) (w:World) (h:StoreAt ρ κ w sb st) :
 Calls prog 193 #[pt sb,str s,.int .i64 x] w (StR ρ sb (st.closes s x).2 (st.closes s x).1 w):=by
 have X:=Ne w;have cz:=hw.nc;have c0:=hw.curm;have a0:=hw.cur;have a7:=a0.len;have a8:=a0.loc;obtain ⟨fb,fo,pre,post,T,vv,vc,c1,am,G,hf,a1⟩:=h.open;have HC:=iF (λw1 h=>ER fb fo st.calls.length sb Ab w1 h)
 rcases jF st.cur.vars with hv|⟨vs,v,hv⟩
 . have h0:st.cur.locals=0:=by rw [hv] at a8;simpa using a8
   have e:st.closes s x=(6,st):=by unfold Stp.closes;simp only;rw [AG (iG h0)]
   rw [e];obtain ⟨av,cv,rfl,bh⟩:=G8 (S:=λ_=>True) hf.v.1 (λ_ _=>trivial);have U:=G.blk;rw [h0] at U;refine Ad func193 ntmps193 rfl rfl ?_
   refine cS (C1 Pa (cT (Aj (cS (C1 Mv (C1 (A1 Ac rfl rfl) (cT (Ba rfl (Ao (Ai (cS (C1 Mv (cC rfl (HC.out _ Ae) ?_)))))))))))));rintro _ w2 ⟨⟨⟩,x1⟩;revert h X U;refine eE x1 ?_;intro h X U;refine C1 Pa (cN (C1 Mv (C1 Pn (C1 Pg (C1 (UK U) (C1 Pz (C1 (AL rfl rfl (iO _ Ab)) (C1 Pa (cT (Aj (cS (C1 Mv (C1 Pn (C1 Pf (C1 (Pw U) (C1 V1 (C1 Mv (WC (WC (WC (WC (WC (WC (WC (WC (WC (WC (C1 bA (cT (BP rfl (cS (C1 Pa (cT (AR (As (AT rfl rfl ?_))))))))))))))))))))))))))))))))))))
   exact StR.same Ae X
 rw [jU] at hv
 have a2:st.cur.vars.length=vs.length+1:=by rw [hv];simp
 obtain ⟨cs,c,a3⟩:∃cs c,st.cur.cells=cs++[c]:=by
  rcases jF st.cur.cells with h'|⟨cs,c,h'⟩
  . rw [h',a2] at a7
    simp at a7
  . exact ⟨cs,c,by rw [h',jU]⟩
 have a4:st.cur.cells.length=vs.length+1:=by omega
 have an:cs.length=vs.length:=by rw [a3] at a4;simpa using a4
 have ba:st.cur.vars[vs.length]? = some v:=by rw [hv];simp
 have a5:st.cur.cells[vs.length]? = some c:=by rw [a3,iY Ab];simp [an]
 have bs:c<st.heap.length:=by rw [hw.len];exact a0.lt (jh a5)
 have bb:=hw.cell c _ (a0.kind _ _ _ ba a5);obtain ⟨c2,vi,ak,bi⟩:=h.cells _ _ (ES bs);obtain ⟨ai,ci,rfl⟩:=bi.1.shape
 have e:st.closes s x=if st.cur.locals=0\/v.name≠s then (6,st) else if v.kind=1/\(st.items c).getD 0 0≠x\/v.kind=3/\0<(st.items c).length then (16,st) else (0,st.setCur ⟨vs,cs,st.cur.locals-1⟩):=by
  unfold Stp.closes
  simp only;rw [a2,Nat.add_sub_cancel];rw [iK,ba,iK (l:=st.cur.cells),a5];simp only [kY];rw [hv,a3]
  simp
 rw [e];obtain ⟨av,cv,rfl,bh⟩:=G8 (S:=λ_=>True) hf.v.1 (λ_ _=>trivial);obtain ⟨ac,cc,rfl,bt⟩:=M6 hf.c.1;obtain ⟨kb,ko,rfl,-,bj⟩:=bh.get (by intro e;rw [e] at hv;simp at hv);obtain ⟨gc,rfl,r1⟩:=bt.get a5;have r0:=bj _ _ ba;have rv:=hf.v.2;have rc:=hf.c.2;have V:=hf.v.1;have Y:=hf.c.1;have lv:=V.le;have lc:=Y.le;rw [a2] at V lv;rw [a4] at Y lc;rw [hv,kB] at V;rw [a3,jJ] at Y;replace V:=V.cut (m:=vs.length) (ZQ _) Ab;replace Y:=Y.cut (m:=vs.length) (by simp [an]) Ab
 have hd:∀k,(k:Nat)=fb->ρ k≠.vars st.calls.length/\ρ k≠.cels st.calls.length:=λk M=>by
  subst M
  rcases am with h|h<;>rw [h]<;>exact ⟨AN,AN⟩
 have aa:∀k,(jf (some ⟨kb,ko,none⟩) vs.length cv).ownBlock=some k -> ¬k=fb:=λk M O=>(hd k O).1 (rv k M)
 have ab:∀k,(jf (some ⟨gc,0,none⟩) vs.length cc).ownBlock=some k -> ¬k=fb:=λk M O=>(hd k O).2 (rc k M)
 have bu:=iF (a1 ρ κ);have HF:=iF h.fresh;have bv:=bi.1.at;have F:=mI (· = fb) w;obtain ⟨vn,vk,vl⟩:=v
 unfold KC at r1
 rw [a2] at G;rw [a4] at G;have U:=G.blk
 have hi:(((vs.length+1:Nat):Int)-1).toNat=vs.length:=by omega
 have al:(((vs.length+1:Nat):Int)-1)=(vs.length:Int):=by omega
 have bc:vs.length<=cv:=by omega
 have bd:vs.length<=cc:=by omega
 replace r0:Row w ⟨kb,ko+(((vs.length+1:Nat):Int)-1).toNat*3,none⟩ [str vn,.int .u8 vk,.int .i64 vl]:=by rw [hi];exact r0
 replace r1:Row w ⟨gc,0+(((vs.length+1:Nat):Int)-1).toNat*1,none⟩ [pt (κ c)]:=by rw [hi];exact r1
 simp only at bb ⊢
 by_cases h6:st.cur.locals=0\/vn≠s
 . rw [AG h6]
   generalize hL:st.cur.locals=L at *
   refine Ad func193 ntmps193 rfl rfl ?_
   focus
    refine cS (C1 Pa (cT (Aj (cS (C1 Mv (C1 (A1 Ac rfl rfl) (cT (Ba rfl (Ao (Ai (cS (C1 Mv (cC rfl (HC.out _ Ae) ?_)))))))))))));rintro _ c3 ⟨⟨⟩,bw⟩;revert h X r0 U;refine eE bw ?_;intro h X r0 U;refine C1 Pa (cN (C1 Mv (C1 Pn (C1 Pg (C1 (UK U) (C1 Pz (C1 (AL rfl rfl (iO _ Ab)) (C1 Pa (cT (Aj (cS (C1 Mv (C1 Pn (C1 Pf (C1 (Pw U) (C1 V1 (C1 Mv (B8 rfl rfl rfl (λbx=>?_) (λbx=>?_)))))))))))))))))));refine FR (FR (FR (FR (FR (FR (FR (FR (FR (FR (C1 TR (cT (BP rfl (cS (C1 Pa (cT (AR (As (AT rfl rfl ?_))))))))))))))))));rotate_left;refine FQ (C1 Mv (FQ (C1 Pn (FQ (C1 Pg (FQ (C1 (UK U) (FQ (C1 Mv (FQ (C1 Pi (FQ (C1 Pg (FQ (C1 (UK r0) (FQ (C1 Mv (FQ (C1 V9 (C1 Ss (cT (BT rfl (λbz=>?_) (λbz=>?_)))))))))))))))))))))));refine cS (C1 Pa (cT (AR (As (AT rfl rfl ?_)))));rotate_left;refine Ao (Ai ?_);rotate_left
   . exact StR.same Ae X
   . exact StR.same Ae X
   . exact (h6.elim (λh=>by omega) (λh=>h Ae)).elim
 rw [At h6]
 have h7:¬st.cur.locals=0:=λh=>h6 (iG h)
 have h8:vn=s:=Decidable.byContradiction λh=>h6 (iH h)
 subst h8;have c4:=bb.le
 have ad:∀w',Fr (· = fb) w w'->Win w' fb fo [.slice (some ⟨kb,ko,none⟩) vs.length cv,.slice (some ⟨gc,0,none⟩) vs.length cc,.int .i64 ((st.cur.locals:Int)-1)] pre post T->Own w' 0 77 3 (.slice (some ⟨kb,ko,none⟩) vs.length cv) vs.length (vs.flatMap VD.cells)->Own w' 0 234 1 (.slice (some ⟨gc,0,none⟩) vs.length cc) vs.length (cs.map (KC κ))->StR ρ sb (st.setCur ⟨vs,cs,st.cur.locals-1⟩) 0 w (.returned (.int .i64 0)) w':=λw' x h1 h2 h3=>by
  rw [show ((st.cur.locals:Int)-1)=((st.cur.locals-1:Nat):Int) by omega] at h1
  exact ⟨ρ,κ,rfl,Ro.refl _ _,bu.out w' ⟨vs,cs,st.cur.locals-1⟩ _ _ (Ro.refl _ _) (HF.out.mv x) (λ_ _ _ _=>rfl) (λ_ _=>rfl) (x.weaken (λk M=>iG M)) h1 ⟨⟨h2,rv⟩,by rw [an];exact h3,rc⟩,x.weaken (λk M=>by subst M;rcases am with h|h<;>rw [h]<;>trivial)⟩
 replace ad:=iF ad
 by_cases h1:vk=1
 . have bk:(st.items c).length=1:=by rcases bb with ⟨-,h⟩|⟨h,-⟩|⟨h,-⟩<;>simp only at * <;> omega
   obtain ⟨gi,go,rfl,b0⟩:=bv.get (by intro e;rw [e] at bk;simp at bk);have r2:=nI b0 (i:=(0:Int).toNat) Ab;simp only [show (0:Int).toNat=0 from rfl] at r2;subst h1
   generalize c5:(st.items c).getD 0 0=v0 at *
   generalize (st.items c).length=xn at *
   generalize κ c=cb at *
   refine Ad func193 ntmps193 rfl rfl ?_
   focus
    refine cS (C1 Pa (cT (Aj (cS (C1 Mv (C1 (A1 Ac rfl rfl) (cT (Ba rfl (Ao (Ai (cS (C1 Mv (cC rfl (HC.out _ Ae) ?_)))))))))))));rintro _ a6 ⟨⟨⟩,b1⟩;revert h X G V Y F r0 r2 r1 ak;refine eE b1 ?_;intro h X G V Y F r0 r2 r1 ak;refine C1 Pa (cN (C1 Mv (C1 Pn (C1 Pg (Dx Ac rfl rfl rfl (Win.blk G) rfl rfl (C1 Pz (C1 (AL rfl rfl (iO _ Ab)) (C1 Pa (cT (Aj (cS (C1 Mv (C1 Pn (C1 Pf (Do Ac rfl rfl rfl (Win.blk G) rfl rfl (C1 V1 (C1 Mv (EG (C1 Mv (EG (C1 Pn (EG (C1 Pg (EG (Dx Ac rfl rfl rfl (Win.blk G) rfl rfl (EG (C1 Mv (EG (C1 Pi (EG (C1 Pg (EG (C1 (UK r0) (EG (C1 Mv (EG (C1 V9 (C1 N2 (cT (NT rfl (not_not_intro rfl) (Ao (Ai (cS (C1 Mv (C1 Pn (C1 Pf (Do Ac rfl rfl rfl (Win.blk G) rfl rfl (C1 Mv (C1 Pi (C1 (UK r1) (C1 Pn (C1 Pg (C1 (Pl ak) (C1 Pa (cT (Aj (cS (C1 Mv (C1 Pn (C1 Pg (Dx Ac rfl rfl rfl (Win.blk G) rfl rfl (C1 Mv (C1 Pi (C1 Pf (C1 (Pw r0) (C1 V1 (C1 Mv ?_)))))))))))))))))))))))))))))))))))))))))))))))))))))))))))))))))));refine Qj (C1 Mv (Qj (C1 Pi (Qj (C1 (Pw r2) (Qj (C1 Mv (Qj (C1 V2 (C1 bA (C1 Mv (B8 rfl rfl rfl (λb2=>?_) (λb2=>?_)))))))))))));refine FR (FR (FR (FR (FR (FR (FR (FR (FR (FR (L9 rfl rfl rfl rfl (L9 rfl rfl rfl rfl (L9 rfl rfl rfl rfl (FR (C1 TR (cT (BP rfl (cS (C1 Pa (cT (AR (As (AT rfl rfl ?_))))))))))))))))))))))
    rotate_left;refine FQ (C1 Mv (FQ (C1 Pn (FQ (C1 Pg (FQ (Dx Ac rfl rfl rfl (Win.blk G) rfl rfl (FQ (C1 Mv (FQ (C1 Pi (FQ (C1 Pf (FQ (C1 (Pw r0) (FQ (C1 V1 (FQ (C1 Mv (YP (YP (YP (FQ (C1 bB (C1 Ss (cT (Ba rfl (Ao (Ai (Aj (Nb (λZ=>Ext a6 Z) (λZ=>Fr (λx=>x=fb) a6 Z) [0,2,3,4,5,6,7,8,9,10,11,14,15] [16,17,18,19] 16 17 (.pure 0 (.free 1 (.pure 2 (.pure 3 (.pure 4 (.pure 5 (.pure 6 (.pure 7 (.pure 8 (.pure 9 (.pure 10 (.pure 11 (.free 12 (.free 13 (.pure 14 (.pure 15 (.put 16 (.tail 17)))))))))))))))))) mixed AU (Aa Ag) ?_)))))))))))))))))))))))))))))));intro bl be _;have bm:(λZ=>Ext a6 Z) bl:=be;simp only at bm;have ao:(λZ=>Fr (λx=>x=fb) a6 Z) bl:=mG be;simp only at ao;have N:=G;revert G V Y F;refine eE be ?_;intro G V Y F;refine Am Ae rfl (Av rfl) rfl (Bp Ae rfl (Av rfl) rfl (Am Ae rfl (Av rfl) rfl (Am Ae rfl (BH rfl) rfl (Am Ae rfl (CF Ac rfl rfl rfl) rfl (Am Ae rfl (Ap Ac rfl rfl rfl (λZ hz=>mO (mJ (Win.blk N) hz) rfl)) rfl (Am Ae rfl (Av rfl) rfl (Am Ae rfl (DN Ac rfl rfl rfl rfl al bc) rfl ?_)))))))
    refine Am Ae rfl (Av rfl) rfl (Am Ae rfl (BH rfl) rfl (Am Ae rfl (AX Ac rfl rfl rfl) rfl (Am Ae rfl (Ap Ac rfl rfl rfl (λZ hz=>nJ (mJ (Win.blk N) hz) rfl)) rfl (Bp Ae rfl (Av rfl) rfl (Bp Ae rfl (DN Ac rfl rfl rfl rfl al bd) rfl (Am Ae rfl (BH rfl) rfl (Am Ae rfl (CF Ac rfl rfl rfl) rfl (DD rfl (Fs fb fo [_,_,_] Ac rfl rfl rfl rfl rfl rfl Ae rfl rfl) (BJ ?_)))))))));rintro _ b6 ⟨b7,ag,b8⟩;replace ao:=ao.fr ag Ab;replace V:=mY V ag (λk M O=>aa k M O);replace Y:=mY Y ag (λk M O=>ab k M O);replace F:=F.fr ag Ab;refine ⟨Ae,(DB rfl (C1 Pn (C1 Pf (A7 (CA fb fo 1 [_,_,_] Ac rfl rfl rfl rfl rfl rfl Ae rfl rfl) (BJ ?_)))))⟩;rintro _ b9 ⟨bn,ap,ca⟩;replace V:=mY V ap (λk M O=>aa k M O);replace Y:=mY Y ap (λk M O=>ab k M O);replace F:=F.fr ap Ab;refine cN (C1 Mv (C1 Pn (C1 Pf (Do Ac rfl rfl rfl (Win.blk bn) rfl rfl ?_))))
    refine C1 (AL rfl rfl (iO _ Ab)) (C1 Pn (C1 Pf (A7 (CA fb fo 2 [_,_,_] Ac rfl rfl rfl rfl rfl rfl Ae rfl rfl) (BJ ?_))));rintro _ cd ⟨ce,aq,cf⟩;replace V:=mY V aq (λk M O=>aa k M O);replace Y:=mY Y aq (λk M O=>ab k M O);replace F:=F.fr aq Ab;refine cN (C1 Pa (cT (AR (AT rfl rfl ?_))));rotate_left
   . rw [AG (iG ⟨rfl,Ae⟩)]
     exact StR.same Ae X
   . rw [At (λh=>by rcases h with ⟨-,h⟩|⟨h,-⟩;exact absurd h Ae;simp at h)]
     exact ad.out _ F Ae Ae Ae
 . generalize (st.items c).length=xn at *
   generalize κ c=cb at *
   refine Ad func193 ntmps193 rfl rfl ?_
   focus
    refine cS (C1 Pa (cT (Aj (cS (C1 Mv (C1 (A1 Ac rfl rfl) (cT (Ba rfl (Ao (Ai (cS (C1 Mv (cC rfl (HC.out _ Ae) ?_)))))))))))));rintro _ ae ⟨⟨⟩,b3⟩;revert h X G V Y F r0 r1 ak;refine eE b3 ?_;intro h X G V Y F r0 r1 ak;refine C1 Pa (cN (C1 Mv (C1 Pn (C1 Pg (Dx Ac rfl rfl rfl (Win.blk G) rfl rfl (C1 Pz (C1 (AL rfl rfl (iO _ Ab)) (C1 Pa (cT (Aj (cS (C1 Mv (C1 Pn (C1 Pf (Do Ac rfl rfl rfl (Win.blk G) rfl rfl (C1 V1 (C1 Mv (EG (C1 Mv (EG (C1 Pn (EG (C1 Pg (EG (Dx Ac rfl rfl rfl (Win.blk G) rfl rfl (EG (C1 Mv (EG (C1 Pi (EG (C1 Pg (EG (C1 (UK r0) (EG (C1 Mv (EG (C1 V9 (C1 N2 (cT (NT rfl (not_not_intro rfl) (Ao (Ai (cS (C1 Mv (C1 Pn (C1 Pf (Do Ac rfl rfl rfl (Win.blk G) rfl rfl (C1 Mv (C1 Pi (C1 (UK r1) (C1 Pn (C1 Pg (C1 (Pl ak) (C1 Pa (cT (Aj (cS (C1 Mv (C1 Pn (C1 Pg (Dx Ac rfl rfl rfl (Win.blk G) rfl rfl (C1 Mv (C1 Pi (C1 Pf (C1 (Pw r0) (C1 V1 (C1 Mv ?_)))))))))))))))))))))))))))))))))))))))))))))))))))))))))))))))))));refine Sy (Sy (Sy (Sy (Sy (C1 Ss (C1 Mv (Bn rfl rfl rfl (rfl) (C1 Mv (Bn rfl rfl rfl (rfl) (C1 Pn (Bn rfl rfl rfl (rfl) (C1 Pg (Bn rfl rfl rfl (rfl) (Dx Ac rfl rfl rfl (Win.blk G) rfl rfl (Bn rfl rfl rfl (rfl) (C1 Mv (Bn rfl rfl rfl (rfl) (C1 Pi (Bn rfl rfl rfl (rfl) (C1 Pf (Bn rfl rfl rfl (rfl) (C1 (Pw r0) (Bn rfl rfl rfl (rfl) ?_)))))))))))))))))))))))
    refine C1 V1 (Bn rfl rfl rfl (rfl) (C1 Mv (B8 rfl rfl rfl (λb4=>?_) (λb4=>?_))));refine gC (C1 Mv (gC (C1 Pz (gC (C1 V5 (Bn rfl rfl rfl (rfl) (C1 TR (C1 (BZ rfl rfl rfl) (cT (Az rfl (λb5=>?_) (λb5=>?_)))))))))));refine cS (C1 Pa (cT (AR (As (AT rfl rfl ?_)))));rotate_left;refine Ao (Ai (Aj (Nb (λZ=>Ext ae Z) (λZ=>Fr (λx=>x=fb) ae Z) [0,2,3,4,5,6,7,8,9,10,11,14,15] [16,17,18,19] 16 17 (.pure 0 (.free 1 (.pure 2 (.pure 3 (.pure 4 (.pure 5 (.pure 6 (.pure 7 (.pure 8 (.pure 9 (.pure 10 (.pure 11 (.free 12 (.free 13 (.pure 14 (.pure 15 (.put 16 (.tail 17)))))))))))))))))) mixed AU (Aa Ag) ?_)));intro bo bf _;have bp:(λZ=>Ext ae Z) bo:=bf;simp only at bp;have ar:(λZ=>Fr (λx=>x=fb) ae Z) bo:=mG bf;simp only at ar;have N:=G;revert G V Y F;refine eE bf ?_;intro G V Y F;refine Am Ae rfl (Av rfl) rfl (Bp Ae rfl (Av rfl) rfl (Am Ae rfl (Av rfl) rfl (Am Ae rfl (BH rfl) rfl (Am Ae rfl (CF Ac rfl rfl rfl) rfl (Am Ae rfl (Ap Ac rfl rfl rfl (λZ hz=>mO (mJ (Win.blk N) hz) rfl)) rfl ?_)))))
    refine Am Ae rfl (Av rfl) rfl (Am Ae rfl (DN Ac rfl rfl rfl rfl al bc) rfl (Am Ae rfl (Av rfl) rfl (Am Ae rfl (BH rfl) rfl (Am Ae rfl (AX Ac rfl rfl rfl) rfl (Am Ae rfl (Ap Ac rfl rfl rfl (λZ hz=>nJ (mJ (Win.blk N) hz) rfl)) rfl (Bp Ae rfl (Av rfl) rfl (Bp Ae rfl (DN Ac rfl rfl rfl rfl al bd) rfl (Am Ae rfl (BH rfl) rfl (Am Ae rfl (CF Ac rfl rfl rfl) rfl (DD rfl (Fs fb fo [_,_,_] Ac rfl rfl rfl rfl rfl rfl Ae rfl rfl) (BJ ?_)))))))))));rintro _ cg ⟨ch,ah,cj⟩;replace ar:=ar.fr ah Ab;replace V:=mY V ah (λk M O=>aa k M O);replace Y:=mY Y ah (λk M O=>ab k M O);replace F:=F.fr ah Ab;refine ⟨Ae,(DB rfl (C1 Pn (C1 Pf (A7 (CA fb fo 1 [_,_,_] Ac rfl rfl rfl rfl rfl rfl Ae rfl rfl) (BJ ?_)))))⟩;rintro _ ck ⟨bq,au,cl⟩;replace V:=mY V au (λk M O=>aa k M O);replace Y:=mY Y au (λk M O=>ab k M O)
    replace F:=F.fr au Ab;refine cN (C1 Mv (C1 Pn (C1 Pf (Do Ac rfl rfl rfl (Win.blk bq) rfl rfl (C1 (AL rfl rfl (iO _ Ab)) (C1 Pn (C1 Pf (A7 (CA fb fo 2 [_,_,_] Ac rfl rfl rfl rfl rfl rfl Ae rfl rfl) (BJ ?_)))))))));rintro _ cm ⟨cn,aw,co⟩;replace V:=mY V aw (λk M O=>aa k M O);replace Y:=mY Y aw (λk M O=>ab k M O);replace F:=F.fr aw Ab;refine cN (C1 Pa (cT (AR (AT rfl rfl ?_))));rotate_left;refine Sy (Sy (Sy (Bn rfl rfl rfl (rfl) (C1 Ss (C1 (BZ rfl rfl rfl) (cT (Ba rfl (Ao (Ai (Aj (Nb (λZ=>Ext ae Z) (λZ=>Fr (λx=>x=fb) ae Z) [0,2,3,4,5,6,7,8,9,10,11,14,15] [16,17,18,19] 16 17 (.pure 0 (.free 1 (.pure 2 (.pure 3 (.pure 4 (.pure 5 (.pure 6 (.pure 7 (.pure 8 (.pure 9 (.pure 10 (.pure 11 (.free 12 (.free 13 (.pure 14 (.pure 15 (.put 16 (.tail 17)))))))))))))))))) mixed AU (Aa Ag) ?_)))))))))));intro a9 ax _;have bg:(λZ=>Ext ae Z) a9:=ax;simp only at bg;have af:(λZ=>Fr (λx=>x=fb) ae Z) a9:=mG ax;simp only at af;have N:=G;revert G V Y F;refine eE ax ?_;intro G V Y F;refine Am Ae rfl (Av rfl) rfl (Bp Ae rfl (Av rfl) rfl ?_)
    refine Am Ae rfl (Av rfl) rfl (Am Ae rfl (BH rfl) rfl (Am Ae rfl (CF Ac rfl rfl rfl) rfl (Am Ae rfl (Ap Ac rfl rfl rfl (λZ hz=>mO (mJ (Win.blk N) hz) rfl)) rfl (Am Ae rfl (Av rfl) rfl (Am Ae rfl (DN Ac rfl rfl rfl rfl al bc) rfl (Am Ae rfl (Av rfl) rfl (Am Ae rfl (BH rfl) rfl (Am Ae rfl (AX Ac rfl rfl rfl) rfl (Am Ae rfl (Ap Ac rfl rfl rfl (λZ hz=>nJ (mJ (Win.blk N) hz) rfl)) rfl (Bp Ae rfl (Av rfl) rfl (Bp Ae rfl (DN Ac rfl rfl rfl rfl al bd) rfl ?_)))))))))));refine Am Ae rfl (BH rfl) rfl (Am Ae rfl (CF Ac rfl rfl rfl) rfl (DD rfl (Fs fb fo [_,_,_] Ac rfl rfl rfl rfl rfl rfl Ae rfl rfl) (BJ ?_)));rintro _ cp ⟨cq,aj,cr⟩;replace af:=af.fr aj Ab;replace V:=mY V aj (λk M O=>aa k M O);replace Y:=mY Y aj (λk M O=>ab k M O);replace F:=F.fr aj Ab;refine ⟨Ae,?_⟩
    refine DB rfl (C1 Pn (C1 Pf (A7 (CA fb fo 1 [_,_,_] Ac rfl rfl rfl rfl rfl rfl Ae rfl rfl) (BJ ?_))));rintro _ ct ⟨br,ay,cu⟩;replace V:=mY V ay (λk M O=>aa k M O);replace Y:=mY Y ay (λk M O=>ab k M O);replace F:=F.fr ay Ab;refine cN (C1 Mv (C1 Pn (C1 Pf (Do Ac rfl rfl rfl (Win.blk br) rfl rfl (C1 (AL rfl rfl (iO _ Ab)) (C1 Pn (C1 Pf (A7 (CA fb fo 2 [_,_,_] Ac rfl rfl rfl rfl rfl rfl Ae rfl rfl) (BJ ?_)))))))));rintro _ cw ⟨cx,az,cy⟩;replace V:=mY V az (λk M O=>aa k M O);replace Y:=mY Y az (λk M O=>ab k M O);replace F:=F.fr az Ab;refine cN (C1 Pa (cT (AR (AT rfl rfl ?_))));rotate_left
   . rw [AG (iH ⟨Ae,Ab⟩)]
     exact StR.same Ae X
   . rw [At (λh=>by rcases h with ⟨h,-⟩|⟨-,h⟩;exact absurd h Ae;omega)]
     exact ad.out _ F Ae Ae Ae
   . rw [At (λh=>by rcases h with ⟨h,-⟩|⟨h,-⟩;exact absurd h Ae;exact absurd h Ae)]
     exact ad.out _ F Ae Ae Ae
end
section
variable {K:List (Int×Int)}
def StoreAt.newCell (h:StoreAt ρ κ w sb st) (M:CellAt ρ κ w st.heap.length xs):StoreAt ρ κ w sb { st with heap:=st.heap++[xs] }:=by
 obtain ⟨N,O,U,V⟩:=h;refine ⟨N,O,U,λc ys G=>?_⟩;simp only at G;rcases lk c st.heap.length with h|h|h
 . rw [iN h] at G;exact V c ys G
 . subst h;rw [iY (iW _)] at G;simp only [kf,ja,iL] at G;subst G;exact M
 . rw [iR (by simp;omega)] at G;cases G
def LE (st:Stp) (f:Frm):(st.setCur f).heap=st.heap:=by
 unfold mV;split<;>rfl
def Stp.WF.cells_lt (h:st.WF K m) (G:f∈st.base::st.calls) (M:c∈f.cells):c<st.heap.length:=by
 rw [h.len];exact (h.all' f G).lt M
def XB {N:Nat} {vc:Value} {v:VD} {κ':Nat->Nat} {ρ':Nat->Rl} {cb:Nat} (hw:st.WF K m) (G:Ry ρ κ w sb st N n cs us T) (M:ρ N = .store\/ρ N = .calls) (hκ:∀c,c≠st.heap.length->κ' c=κ c) (O:κ' st.heap.length=cb) (hr:Ro ρ ρ' w) (Y:Fresh ρ' w') (x:Fr (Ft ρ st.calls.length N) w w')
 (U:Win w' N n [vv,vc,.int .i64 ((st.cur.locals:Int)+1)] cs us T) (V:FrameOk ρ' κ' w' st.calls.length ⟨st.cur.vars++[v],st.cur.cells++[st.heap.length],st.cur.locals⟩ vv vc) (Z:ρ' cb = .cell st.heap.length) (X:∃u,Blk w' cb [u]/\OwnR ρ' (.items st.heap.length) w' u xs) :
 StR ρ sb { st.setCur ⟨st.cur.vars++[v],st.cur.cells++[st.heap.length],st.cur.locals+1⟩ with heap:=st.heap++[xs] } 0 w (.returned (.int .i64 0)) w':=by
 have h1:=G ρ' κ' w' ⟨st.cur.vars++[v],st.cur.cells++[st.heap.length],st.cur.locals+1⟩ vv vc hr Y (λf V c X=>hκ c (by have:=hw.cells_lt V X;omega)) (λc X=>hκ c Ab) x (by simpa using U) ⟨V.v,V.c⟩;have h2:=h1.newCell (xs:=xs) (by
  rw [LE];exact ⟨by rw [O];exact Z,by rw [O];exact X⟩)
 rw [LE] at h2;refine ⟨ρ',κ',rfl,hr,h2,x.weaken (λk hk=>?_)⟩;rcases hk with rfl|h|h
 . rcases M with h|h<;>rw [h]<;>trivial
 . rw [h];trivial
 . rw [h];trivial
def FT (ρ:Nat->Rl) (n cb ib:Nat):Nat->Rl:=λb=>if b=cb then .cell n else if b=ib then .items n else ρ b
def Qe (κ:Nat->Nat) (n cb:Nat):Nat->Nat:=λc=>if c=n then cb else κ c
def RH {j N:Nat} {vc:Value} (hf:FrameOk ρ κ w j f vv vc) (V:Fresh ρ w) (Y:N<w.heap.size) (U:ρ N = .store\/ρ N = .calls) (Z:∀c∈f.cells,c≠n) (w1:wD) (cb G:Nat) (X:Ext w w1) (aa:w.heap.size<=cb) (ab:w.heap.size<=G) (h4:cb<w1.heap.size) (h5:G<w1.heap.size) :
 FrameOk (FT ρ n cb G) (Qe κ n cb) w1 j f vv vc/\(FT ρ n cb G N≠.vars j/\FT ρ n cb G N≠.cels j)/\Fresh (FT ρ n cb G) w1/\(∀k,Ft (FT ρ n cb G) j N k->Ft ρ j N k\/w.heap.size<=k) /\ ¬Ft (FT ρ n cb G) j N cb /\ ¬Ft (FT ρ n cb G) j N G:=by
 have e:∀b,b<w.heap.size->FT ρ n cb G b=ρ b:=λb hb=>by unfold FT;rw [At Ab,At Ab]
 have e1:FT ρ n cb G cb = .cell n:=by unfold FT;rw [AG rfl]
 have O:FT ρ n cb G G = .cell n\/FT ρ n cb G G = .items n:=by
  unfold FT;by_cases h:G=cb
  . rw [AG h];exact iG rfl
  . rw [At h,AG rfl];exact iH rfl
 refine ⟨hf.move (Fr.none X) (λ_ h=>h.elim) e (λc hc=>At (Z c hc)),?_,λb hb=>?_,λk M=>?_,λM=>?_,λM=>?_⟩
 . rw [e _ Y];rcases U with h|h<;>rw [h]<;>exact ⟨AN,AN⟩
 . unfold FT;rw [At Ab,At Ab];exact V b Ab
 . rcases i7 k w.heap.size with h|h
   . left;unfold Ft at M ⊢;rw [e k h] at M;exact M
   . exact iH h
 . unfold Ft at M;rw [e1] at M;rcases M with h|h|h
   . omega
   . cases h
   . cases h
 . unfold Ft at M;rcases M with h|h|h
   . omega
   . rcases O with O|O<;>rw [O] at h<;>cases h
   . rcases O with O|O<;>rw [O] at h<;>cases h
def dA (hw:st.WF K m) (hm:m<=100000) (v:VD) (hk:v.kind=1\/v.kind=3) (hl:v.len=0) (x:Int) (w:wD) (h:StoreAt ρ κ w sb st) :
 Calls prog 192 #[pt sb,v.val,.int .i64 x] w (StR ρ sb (st.opens v x).2 (st.opens v x).1 w):=by
 have X:=Ne w;have ck:=hw.nc;have cl:=hw.curm;have ay:=hw.cur;have bu:=ay.len;have bv:=ay.loc;obtain ⟨fb,fo,pre,post,T,vv,vc,N,ad,M,hf,an⟩:=h.open;have HC:=iF (λw1 h=>ER fb fo st.calls.length sb Ab w1 h);obtain ⟨av,cv,rfl,O⟩:=G8 (S:=λ_=>True) hf.v.1 (λ_ _=>trivial);have hF:=λw1 h1 h2=>M7 st.cur.vars Ab v.name (λ_=>True) av cv vc (.int .i64 st.cur.locals) fb fo w1 h1 h2
 obtain ⟨vn,vk,vl⟩:=v;simp only at hk hl hF;subst hl;change Calls prog _ #[_,.agg #[str vn,.int .u8 vk,.int .i64 0],_] w _;cases hi:BR vn st.cur.vars with
 | some i=>
  have e:st.opens ⟨vn,vk,0⟩ x=(22,st):=by unfold Stp.opens;rw [AG (by simp [hi])]
  rw [show CX st.cur.vars vn=(i:Int) by unfold CX;rw [hi]] at hF;have hF:=iF hF;rw [e];have G:=M.blk;generalize st.cur.vars=vs at *;refine Ad func192 ntmps192 rfl rfl ?_
  focus
   refine cS (eB [_,_,_] ?_);intro b1 w2 h4 x5 _ _;revert h X N O G;refine eE x5 ?_;intro h X N O G;refine eK ?_;refine C1 (A1 Ac rfl rfl) (eK ?_);refine B8 rfl rfl rfl (λc8=>?_) (λc8=>?_);refine kC (HC.out _ Ae) ?_;rintro _ cm ⟨⟨⟩,x9⟩;revert h4 h X N O G;refine eE x9 ?_;intro h4 h X N O G;refine kC (hF.out _ Ae Ae) ?_;rintro _ cn ⟨⟨⟩,bg⟩;revert h4 h X N O G;refine eE bg ?_;intro h4 h X N O G;refine kR ?_;rotate_left;refine kC (HC.out _ Ae) ?_;rintro _ co ⟨⟨⟩,bh⟩;revert h4 h X N O G;refine eE bh ?_;intro h4 h X N O G;refine kC (hF.out _ Ae Ae) ?_;rintro _ cp ⟨⟨⟩,bi⟩;revert h4 h X N O G;refine eE bi ?_;intro h4 h X N O G;refine kR ?_;rotate_left
  . exact StR.same Ae X
  . exact StR.same Ae X
 | none=>
  rw [show CX st.cur.vars vn = -1 by unfold CX;rw [hi]] at hF;have hF:=iF hF;have e:st.opens ⟨vn,vk,0⟩ x=(0,{ st.setCur ⟨st.cur.vars++[⟨vn,vk,0⟩],st.cur.cells++[st.heap.length],st.cur.locals+1⟩ with heap:=st.heap++[if vk=1 then [x] else []] }):=by unfold Stp.opens;rw [At (by simp [hi])]
  rw [e];have ap:=iF (λxs κ' ρ' w' vv vc cb=>XB (v:=⟨vn,vk,0⟩) (xs:=xs) (κ':=κ') (ρ':=ρ') (w':=w') (vv:=vv) (vc:=vc) (cb:=cb) hw an ad);have cq:=iF h.fresh;have bj:fb<w.heap.size:=M.1.blk.lt;have G:=M.blk;have F:=mI (Ft ρ st.calls.length fb) w;have HA:=iF (λw1 cb ib X bk bl h4 h5=>RH (κ:=κ) (n:=st.heap.length) hf h.fresh bj ad (λc hc=>by have:=hw.cells_lt (IB st) hc;omega) w1 cb ib X bk bl h4 h5);rcases hk with rfl|rfl
  . refine Ad func192 ntmps192 rfl rfl ?_;refine cS (LS rfl rfl rfl ?_);intro cr ct ar U;have bm:=ar.ext;have cu:=ar.pos;have cw:=ar.size;revert X N O M G F;refine eE bm ?_;intro X N O M G F;refine eK ?_;refine C1 (A1 Ac rfl rfl) (cT (Ba rfl (Ao (Ai (Aj (cS (C1 Pf (C1 (Pl (nD U)) (C1 V2 (C1 Mv (YP (YP (YP (C1 bB (C1 Mv (Bn rfl rfl rfl (rfl) (C1 Pf (Bn rfl rfl rfl (rfl) (C1 (Pl (nD U)) (kC (HC.out _ Ae) ?_))))))))))))))))))));rintro _ cx ⟨⟨⟩,bn⟩;revert U X N O M G F;refine eY bn ?_;intro bw U X N O M G F;refine C1 Pa (cT (Aj (cS (C1 Mv (C1 Pg (C1 (Pl (nD U)) (cC rfl (hF.out _ Ae Ae) ?_)))))));rintro _ bx ⟨⟨⟩,az⟩;revert U X N O M G F;refine eY az ?_;intro bz U X N O M G F;refine eK ?_;refine C1 (xB [_]) (LS rfl rfl rfl ?_);intro aa b0 ae af;have a0:=ae.ext;have b2:=ae.pos;have b3:=ae.size;revert U X N O M G F;refine eE a0 ?_;intro U X N O M G F;refine C1 Pa (cT (Aj (cS (C1 Pf (C1 (Pl (nD U)) (eK ?_))))));refine Aw (xS [_]) rfl ?_ aFh;rintro _ b4 ⟨aq,rfl,ag,a1⟩;have Y:TB _ _ _ _:=a1;have a2:=ag.ext;have b5:=ag.pos;have b6:=ag.size;revert af U X N O M G F;refine eE a2 ?_;intro af U X N O M G F;refine eK ?_;refine KF [_] [_] Ac rfl rfl rfl rfl rfl rfl (nD af) rfl rfl ?_;intro a3 ah;have ab:=ah.blk;have ai:=ah.fr;have b7:=ah.size;have Y:=Y.fr ai Ab;revert U X;refine eF ai ?_;intro U X;revert M G F;refine eF ai ?_;intro M G F;refine cT ?_
    obtain ⟨k1,k2,k3,k4,k5,k6⟩:=HA.out a3 aa aq X Ab Ab Ab Ab;have aj:=iF (λw1 h1 h2 h3=>Ul (κ:=Qe κ st.heap.length aa) st.cur ⟨vn,1,0⟩ st.heap.length fb fo pre post T (.slice av st.cur.vars.length cv) vc (.int .i64 st.cur.locals) w1 h1 h2 k2 h3 Ab Ab);have k3:=iF k3;rw [show KC (Qe κ st.heap.length aa) st.heap.length=pt aa by unfold KC Qe;rw [AG rfl]] at aj;refine eK ?_;refine A3 [_,_,_] Ac rfl rfl rfl (nD U) rfl rfl rfl (C1 Mv (eQ rfl (aj.out _ k1 M k3.out) ?_));rintro _ cy ⟨b8,b9,a4,⟨⟩,ao,bo,bp,a5,au⟩;have ab:=mH ab au (k5);have Y:=TB.fr Y au (k6);have F:=mL F au (k4);refine eK ?_;refine Do Ac rfl rfl rfl (Win.blk bp) rfl rfl (eK ?_);refine A7 (CA fb fo 2 [_,_,_] Ac rfl rfl rfl rfl rfl rfl Ae rfl rfl) (BJ ?_);rintro _ a6 ⟨a7,ak,ca⟩;have a5:=FrameOk.fr a5 ak (λk hk=>by (rw [show k=fb from hk,ao fb Ab];exact k2));revert ab Y;refine eF ak ?_;intro ab Y;have F:=mL F ak (λk hk=>iG (iG hk));refine kR ?_;refine ap.out [x] (Qe κ st.heap.length aa) a4 a6 _ _ aa (λc hc=>At hc) (AG rfl) (λb hb=>?_) (λb hb=>bo b Ab) F a7 Ae ?_ ⟨_,ab,OwnI.mk (xs:=[x]) (zs:=[]) (iT _) (by exact Y) SC,λk hk=>?_⟩
    . rw [ao b Ab];unfold FT;rw [At Ab,At Ab]
    . rw [ao _ Ab];exact AG rfl
    . obtain rfl:=iQ (show some aq=some k from hk);rw [ao _ Ab];unfold FT;rw [At Ab,AG rfl]
  . refine Ad func192 ntmps192 rfl rfl ?_;refine cS (LS rfl rfl rfl ?_);intro cz c0 aw V;have bq:=aw.ext;have c1:=aw.pos;have c2:=aw.size;revert X N O M G F;refine eE bq ?_;intro X N O M G F;refine eK ?_;refine C1 (A1 Ac rfl rfl) (cT (Ba rfl (Ao (Ai (Aj (cS (C1 Pf (C1 (Pl (nD V)) (C1 V2 (C1 Mv (Qj (C1 Pf (Qj (C1 (Pl (nD V)) (Qj (C1 V2 (C1 bA (C1 Mv (gG (C1 Pf (gG (C1 (Pl (nD V)) (kC (HC.out _ Ae) ?_)))))))))))))))))))))));rintro _ c3 ⟨⟨⟩,br⟩;revert V X N O M G F;refine eY br ?_;intro cc V X N O M G F;refine C1 Pa (cT (Aj (cS (C1 Mv (C1 Pg (C1 (Pl (nD V)) (cC rfl (hF.out _ Ae Ae) ?_)))))));rintro _ cd ⟨⟨⟩,a8⟩;revert V X N O M G F;refine eY a8 ?_;intro ce V X N O M G F;refine eK ?_;refine C1 (xB [_]) (LS rfl rfl rfl ?_);intro Z a9 al ac;have ba:=al.ext;have cf:=al.pos;have cg:=al.size;revert V X N O M G F;refine eE ba ?_;intro V X N O M G F;refine C1 Pa (cT (Aj (cS (C1 Pf (C1 (Pl (nD V)) (eK ?_))))));obtain ⟨k1,k2,k3,k4,k5,k6⟩:=HA.out a9 Z Z X Ab Ab Ab Ab;have aj:=iF (λw1 h1 h2 h3=>Ul (κ:=Qe κ st.heap.length Z) st.cur ⟨vn,3,0⟩ st.heap.length fb fo pre post T (.slice av st.cur.vars.length cv) vc (.int .i64 st.cur.locals) w1 h1 h2 k2 h3 Ab Ab);have k3:=iF k3;rw [show KC (Qe κ st.heap.length Z) st.heap.length=pt Z by unfold KC Qe;rw [AG rfl]] at aj
    refine eK ?_;refine A3 [_,_,_] Ac rfl rfl rfl (nD V) rfl rfl rfl (C1 Mv (eQ rfl (aj.out _ k1 M k3.out) ?_));rintro _ c4 ⟨ch,ci,bb,⟨⟩,ax,bs,bt,bc,bd⟩;have ac:=TB.fr ac bd (k5);have F:=mL F bd (k4);refine eK ?_;refine Do Ac rfl rfl rfl (Win.blk bt) rfl rfl (eK ?_);refine A7 (CA fb fo 2 [_,_,_] Ac rfl rfl rfl rfl rfl rfl Ae rfl rfl) (BJ ?_);rintro _ be ⟨bf,am,cj⟩;have bc:=FrameOk.fr bc am (λk hk=>by (rw [show k=fb from hk,ax fb Ab];exact k2));have ac:=ac.fr am Ab;have F:=mL F am (λk hk=>iG (iG hk));refine kR ?_;refine ap.out [] (Qe κ st.heap.length Z) bb be _ _ Z (λc hc=>At hc) (AG rfl) (λb hb=>?_) (λb hb=>bs b Ab) F bf Ae ?_ ⟨_,ac.blk,OwnI.nil,λk hk=>(kO _ hk.symm).elim⟩
    . rw [ax b Ab];unfold FT;rw [At Ab,At Ab]
    . rw [ax _ Ab];exact AG rfl
end
section
variable {ρ':Nat->Rl} {K:List (Int×Int)}
def iD (ρ:Nat->Rl) (n k:Nat):Prop:= ¬MZ (ρ k)\/ρ k = .vars (n+1)\/ρ k = .cels (n+1)
def StoreAt.moveN (h:StoreAt ρ κ w sb st) (x:Fr S w w') (Y:∀k,S k->iD ρ st.calls.length k) (N:Ro ρ ρ' w) (O:Fresh ρ' w'):StoreAt ρ' κ w' sb st:=by
 obtain ⟨U,-,⟨Z,bc,cv,tb,cs,V,h3,h4,h5,h6⟩,h7⟩:=h;have X:=V.lt;have M:∀ {r:Rl},MZ r->r≠.vars (st.calls.length+1)->r≠.cels (st.calls.length+1) -> ∀k,S k->ρ k≠r:=λN n1 n2 k G e=>by
  rcases Y k G with h|h|h
  . exact h (by rw [e];exact N)
  . exact n1 (by rw [<-e,h])
  . exact n2 (by rw [<-e,h])
 exact ⟨by rw [N _ X,U],O,⟨Z,bc,cv,tb,cs,V.fr x (λhS=>M (r:=.store) trivial AN AN _ hS U),h3.move x (λk G=>⟨M (by exact trivial) AN AN k G,M (by exact trivial) AN AN k G⟩) N (λ_ _=>rfl),h4.move x (M (by exact trivial) AN AN) N,
  FramesOk.move x N _ _ _ h5 (λk G i U V=>⟨M (by exact trivial) (by simp;omega) AN k G,M (by exact trivial) AN (by simp;omega) k G⟩) (λ_ _ _ _=>rfl),h6.move x (λk G=>⟨M (by exact trivial) AN AN k G,M (by exact trivial) AN AN k G,M (by exact trivial) AN AN k G⟩) N⟩,
  λc xs hc=>(h7 c xs hc).move x (λk G=>⟨M (by exact trivial) AN AN k G,M (by exact trivial) AN AN k G⟩) N rfl⟩
def StoreAt.push (h:StoreAt ρ κ w sb st):∃V X Y O tp cs,Blk w sb [V,X,Y,O,tp]/\Own w 0 229 3 O st.calls.length cs/\(∀k,O.ownBlock=some k->ρ k = .calls) /\
 ∀(ρ':Nat->Rl) (w':wD) (f:Frm) (vv vc M:Value),Ro ρ ρ' w->Fresh ρ' w'->Fr (λk=>k=sb\/O.ownBlock=some k) w w'->Blk w' sb [V,X,Y,M,tp]->Own w' 0 229 3 M (st.calls.length+1) (cs++[vv,vc,.int .i64 f.locals])->(∀k,M.ownBlock=some k->ρ' k = .calls)->FrameOk ρ κ w (st.calls.length+1) f vv vc ->
  StoreAt ρ' κ w' sb { st with calls:=st.calls++[f] }:=by
 obtain ⟨h1,-,⟨V,X,O,tb,cs,h2,h3,Z,h5,h6⟩,h7⟩:=h;have aa:=h2.lt;refine ⟨V,X,_,O,_,cs,h2,Z.1,Z.2,λρ' w' f vv vc M U ab x hb ho hc hf=>?_⟩;have N:∀ {r:Rl},r≠.store->r≠.calls -> ∀k,(k=sb\/O.ownBlock=some k)->ρ k≠r:=λn1 n2 k G e=>by
  rcases G with rfl|G
  . exact n1 (by rw [<-e,h1])
  . exact n2 (by rw [<-e,Z.2 k G])
 refine ⟨by rw [U _ aa,h1],ab,⟨V,X,M,tb,cs++[vv,vc,.int .i64 f.locals],hb,h3.move x (λk G=>⟨N AN AN k G,N AN AN k G⟩) U (λ_ _=>rfl),⟨by simpa using ho,hc⟩,(FramesOk.snoc st.calls 1 f _).2 ⟨cs,vv,vc,rfl,FramesOk.move x U _ _ _ h5 (λk G i _ _=>⟨N AN AN k G,N AN AN k G⟩) (λ_ _ _ _=>rfl),?_⟩,h6.move x (λk G=>⟨N AN AN k G,N AN AN k G,N AN AN k G⟩) U⟩,λc xs hx=>(h7 c xs hx).move x (λk G=>⟨N AN AN k G,N AN AN k G⟩) U rfl⟩;rw [l9];exact hf.move x (λk G=>⟨N AN AN k G,N AN AN k G⟩) U (λ_ _=>rfl)
def Ju {G:List lB} {e:Int} (N:ps.length=G.length) (h:(BS st.cur ps G).1=e) (M:e≠0):st.enters ps G=(e,st):=by
 unfold nr;rw [At Ab,AG (by rw [h];exact M),h]
def Own.shape {e:Nat} (h:Own w b e sz v n cs):∃a c,v = .slice a n c:=by
 rcases h.row with ⟨rfl,G,-⟩|⟨g,cap,rfl,-⟩
 . exact ⟨none,0,by rw [G]⟩
 . exact ⟨_,_,rfl⟩
def XC {e:TypeId} (h:Own w 0 e 1 v n cs) (G:∀k,v.ownBlock=some k->S k):∃a c,v = .slice a n c/\Rows S w cs a:=by
 rcases h.row with ⟨rfl,M,N⟩|⟨g,cap,rfl,-,O,U⟩
 . exact ⟨none,0,by rw [M],iG N⟩
 . exact ⟨_,cap,rfl,iH ⟨g,0,rfl,G g O,U⟩⟩
def Rows.at1 {a:oA} (h:Rows S w cs a) {u:Value} (G:cs[i]? = some u):∃b o,a=some ⟨b,o,none⟩/\S b/\Row w ⟨b,o+i*1,none⟩ [u]:=by
 obtain ⟨b,o,U,V,X⟩:=h.get (by rintro rfl;simp at G);refine ⟨b,o,U,V,?_⟩;have O:=X.sub i 1;rw [lf];have M:i<cs.length:=by
  rcases i7 i cs.length with N|N
  . exact N
  . rw [iR N] at G;cases G
 rw [jd M] at O;have:cs[i]=u:=by rw [iE M] at G;exact iQ G
 simpa [this] using O
def ZT (hw:st.WF K m) (hm:m<=100000) (ps:List VD) (qs:List (List UInt8)) (dm:ps.length<=100000) (b3:∀k,S k -> ¬MZ (ρ k)) (pa qa:Option Addr) (pc qc:Nat) (w:World) (h:StoreAt ρ κ w sb st) (hp:VDs S w ps pa) (hq:Rows S w (qs.map str) qa) :
 Calls prog 212 #[pt sb,.slice pa ps.length pc,.slice qa qs.length qc] w (StR ρ sb (st.enters ps qs).2 (st.enters ps qs).1 w):=by
 have X:=Ne w
 by_cases ai:ps.length≠qs.length
 . have e:st.enters ps qs=(7,st):=by unfold nr;rw [AG ai]
   rw [e]
   generalize ps.length=n1 at *
   generalize qs.length=n2 at *
   clear hp hq;refine Ad func212 ntmps212 rfl rfl ?_
   refine eK ?_;refine C1 (A1 Ac rfl rfl) ?_;refine eK ?_;refine AT rfl rfl ?_
   exact StR.same Ae X
 have ai:ps.length=qs.length:=Decidable.not_not.1 ai;have dn:=hw.nc;have dp:=hw.curm;have ck:=hw.cur;have bt:=h.role;obtain ⟨fb,fo,pre,post,T,vv,vc,bu,a2,N,hf,-⟩:=h.open;have HC:=iF (λw1 h=>ER fb fo st.calls.length sb Ab w1 h);obtain ⟨av,cv,rfl,O⟩:=G8 (S:=λk=>ρ k = .vars st.calls.length/\k<w.heap.size) hf.v.1 (λk M=>⟨hf.v.2 k M,(hf.v.1.blk M).2⟩);obtain ⟨ac,cc,rfl,U⟩:=XC (S:=λk=>ρ k = .cels st.calls.length/\k<w.heap.size) hf.c.1 (λk M=>⟨hf.c.2 k M,(hf.c.1.blk M).2⟩);have cl:fb<w.heap.size:=N.1.blk.lt;have G:=N.blk;replace hp:VDs (λk=> ¬MZ (ρ k)/\k<w.heap.size) w ps pa:=hp.lt2.wide (λk M=>⟨b3 k M.1,M.2⟩);replace hq:Rows (λk=> ¬MZ (ρ k)/\k<w.heap.size) w (qs.map str) qa:=hq.lt2.wide (λk M=>⟨b3 k M.1,M.2⟩);have HF:=iF (λs w1 h1 h2=>M7 st.cur.vars Ab s (λk=>ρ k = .vars st.calls.length/\k<w.heap.size) av cv (.slice ac st.cur.cells.length cc) (.int .i64 st.cur.locals) fb fo w1 h1 h2);have HS:=iF h;clear h hf N
 generalize hn:st.calls.length=n at *
 have F:=mI (λk=>ρ k = .vars (n+1)\/ρ k = .cels (n+1)) w;refine Ad func212 ntmps212 rfl rfl ?_
 refine eK ?_;refine C1 (A1 Ac rfl rfl) ?_;refine eK ?_;refine UJ CC rfl rfl ?_;intro V dq a3 a4;have b4:=a3.ext;have dr:=a3.pos;have dt:=a3.size;clear a3;revert G hp hq bu O U F;refine eE b4 ?_;intro G hp hq bu O U F;clear b4;refine kC (HC.out _ Ae) ?_;rintro _ c5 ⟨⟨⟩,bw⟩;have c6:=bw.size;revert a4 G hp hq O U F;refine eE bw ?_;intro a4 G hp hq O U F;clear bw;refine C1 Pa (cT (Aj (cS (C1 Mv (C1 Pz (C1 Mv (cT (Au ?_))))))))
 have ad:∀(e:Int) (ρ1:Nat->Rl) (w':World),Ro ρ ρ1 w->Fresh ρ1 w'->Fr (λk=>ρ k = .vars (n+1)\/ρ k = .cels (n+1)) w w'->st.enters ps qs=(e,st)->StR ρ sb (st.enters ps qs).2 (st.enters ps qs).1 w (.returned (.int .i64 e)) w':=λe ρ1 w' ab a2 F h=>by
  rw [h]
  exact ⟨ρ1,κ,rfl,ab,HS.out.moveN F (λk M=>by rw [hn];exact iH M) ab a2,F.weaken (λk M=>by rcases M with h|h<;>rw [h]<;>trivial)⟩
 replace ad:=iF ad;clear bu X;refine AP (ι:=Nat) (λj=>[(0,pt sb),(2,.slice qa qs.length qc),(7,pt V),(8,.pointer (some ⟨fb,fo,none⟩)),(21,.slice pa ps.length pc),(22,.int .i64 ps.length),(23,.int .i64 j)])
  (λj w'=> ∃(cs:List Nat) (ρj:Nat->Rl) (vv vc:Value),j<=ps.length/\Ro ρ ρj w/\Fresh ρj w'/\Win w' V 0 [vv,vc,.int .i64 0] [] [] 229/\FrameOk ρj κ w' (n+1) ⟨ps.take j,cs,0⟩ vv vc/\Row w' ⟨fb,fo,none⟩ [.slice av st.cur.vars.length cv,.slice ac st.cur.cells.length cc,.int .i64 st.cur.locals] /\
   VDs (λk=>ρ k = .vars n/\k<w.heap.size) w' st.cur.vars av/\Rows (λk=>ρ k = .cels n/\k<w.heap.size) w' (st.cur.cells.map (KC κ)) ac/\VDs (λk=> ¬MZ (ρ k)/\k<w.heap.size) w' ps pa/\Rows (λk=> ¬MZ (ρ k)/\k<w.heap.size) w' (qs.map str) qa /\
   Fr (λk=>ρ k = .vars (n+1)\/ρ k = .cels (n+1)) w w'/\V<w'.heap.size/\ρj V = .none/\BS st.cur ps qs=((BS st.cur (ps.drop j) (qs.drop j)).1,cs++(BS st.cur (ps.drop j) (qs.drop j)).2)/\cs.length=j)
  (λj=>ps.length-j) 0 sB
  ⟨[],ρ,.slice none 0 0,.slice none 0 0,iT _,Ro.refl _ _,λb hb=>HS.out.fresh b Ab,⟨a4,rfl⟩,⟨⟨nB,λk M=>(kO _ M.symm).elim⟩,nB,λk M=>(kO _ M.symm).elim⟩,G,O,U,hp,hq,F,Ab,HS.out.fresh V Ab,AN,rfl⟩ ?_
 clear a4 G O U hp hq F;rintro j w1 ⟨cs,ρj,cm,cn,hj,ab,bg,N,Y,G,O,U,hp,hq,F,du,bx,hb,cp⟩;have aj:=iF bg;have cq:=F.size;clear bg
 by_cases aw:j<ps.length
 . obtain ⟨pb,po,rfl,dv,bh⟩:=hp.get (by intro e;rw [e] at aw;simp at aw);have r0:=bh j ps[j] (iE aw);obtain ⟨qb,qo,rfl,dw,r1⟩:=hq.at1 (i:=j) (u:=str qs[j]) (by rw [jl,iE Ab];rfl)
   have cr:ps.take (j+1)=ps.take j++[ps[j]]:=by rw [List.take_add_one,iE aw];rfl
   rw [jd aw,jd (by omega:j<qs.length),BS] at hb
   have dx:(ps.take j).length=j:=by simp;omega
   clear bh
   generalize ps[j]=v at *
   generalize qs[j]=s at *
   obtain ⟨vn,vk,vl⟩:=v;replace r0:Row w1 ⟨pb,po+j*3,none⟩ [str vn,.int .u8 vk,.int .i64 vl]:=r0;have ak:=HF.out s
   cases hl:BR s st.cur.vars with
   | none=>
    rw [hl] at hb;simp only at hb;rw [show CX st.cur.vars s = -1 by unfold CX;rw [hl]] at ak;replace ak:=iF ak;have he:=Ju (st:=st) (e:=6) ai (by rw [hb]) B9
    refine eK ?_;refine eA [_,_,_] ?_;intro dy dz b5 b6 d0 d5;revert G O F r1;refine eE b6 ?_;intro G O F r1;clear b6;refine C1 Pa (eS [_,_,_] b5 ?_);intro d6 _ bi c7;clear b5 Y;revert G O F r1;refine eF bi ?_;intro G O F r1;clear bi;refine kC (ak.out _ Ae Ae) ?_;rintro _ c8 ⟨⟨⟩,ax⟩;have c9:=ax.size;replace F:=F.ext ax;clear ax;refine eK ?_;refine AT rfl rfl ?_
    exact ad.out 6 ρj _ ab (λb hb=>aj.out b Ab) F he
   | some i=>
    obtain ⟨u,hu,-⟩:=Dl hl
    have ct:i<st.cur.cells.length:=by rw [<-ck.len];exact DY hl
    have hc:=iE ct;rw [hl] at hb;simp only at hb;rw [show st.cur.vars.getD i ⟨[],0,0⟩=u by rw [iK,hu];rfl,show st.cur.cells.getD i 0=st.cur.cells[i] by rw [iK,hc];rfl] at hb;rw [show CX st.cur.vars s=(i:Int) by unfold CX;rw [hl]] at ak;replace ak:=iF ak;obtain ⟨vb,vo,rfl,d7,b7⟩:=O.get (by intro e;rw [e] at hu;simp at hu);have r2:=b7 i u hu;obtain ⟨cb,co,rfl,d8,r3⟩:=U.at1 (i:=i) (u:=KC κ st.cur.cells[i]) (by rw [jl,hc];rfl);have d9:=DY hl;obtain ⟨un,uk,ul⟩:=u;replace r2:Row w1 ⟨vb,vo+i*3,none⟩ [str un,.int .u8 uk,.int .i64 ul]:=r2
    generalize st.cur.cells[i]=c at *
    unfold KC at r3
    clear b7 hu hc;dsimp only at hb
    have a5:∀b,b<w.heap.size->ρ b≠.vars (n+1)->ρ b≠.cels (n+1) -> ¬Ft ρj (n+1) V b:=λb h1 h2 h3 M=>by
     rcases M with rfl|M|M
     . omega
     . rw [ab b h1] at M
       exact h2 M
     . rw [ab b h1] at M
       exact h3 M
    have s1:∀k,Ft ρj (n+1) V k->(ρ k = .vars (n+1)\/ρ k = .cels (n+1))\/w.heap.size<=k:=λk M=>by
     rcases i7 k w.heap.size with h|h
     . rcases M with rfl|M|M
       . omega
       . rw [ab k h] at M
         exact iG (iG M)
       . rw [ab k h] at M
         exact iG (iH M)
     . exact iH h
    have s2:¬Ft ρj (n+1) V fb:=a5 fb cl (by rcases a2 with h|h<;>rw [h]<;>simp) (by rcases a2 with h|h<;>rw [h]<;>simp)
    have s3:∀b,(ρ b = .vars n/\b<w.heap.size) -> ¬Ft ρj (n+1) V b:=λb h=>a5 b h.2 (by rw [h.1];simp) (by rw [h.1];simp)
    have s4:∀b,(ρ b = .cels n/\b<w.heap.size) -> ¬Ft ρj (n+1) V b:=λb h=>a5 b h.2 (by rw [h.1];simp) (by rw [h.1];simp)
    have s5:∀b,(¬MZ (ρ b)/\b<w.heap.size) -> ¬Ft ρj (n+1) V b:=λb h=>a5 b h.2 (λe=>h.1 (by rw [e];trivial)) (λe=>h.1 (by rw [e];trivial))
    have cu:ρj V≠.vars (n+1)/\ρj V≠.cels (n+1):=by rw [bx];exact ⟨AN,AN⟩
    have b8:=iF (λw2 h1 h2 h3=>Ul (κ:=κ) (j:=n+1) ⟨ps.take j,cs,0⟩ ⟨vn,vk,vl⟩ c V 0 [] [] 229 cm cn (.int .i64 0) w2 h1 h2 cu h3 (by simp only;omega) (by simp only;omega))
    unfold KC VD.val at b8
    refine eK ?_;refine eA [_,_,_] ?_;intro ea eb b9 ca ec ed;revert N Y F hp hq r1 O U G r2 r3;refine eE ca ?_;intro N Y F hp hq r1 O U G r2 r3;clear ca;refine C1 Pa (eS [_,_,_] b9 ?_);intro ee ae ap da;clear b9;replace N:=N.fr ap Ab;replace Y:=FrameOk.fr Y ap (λk M=>by (rw [show k=_ from M,aj.out _ Ab];exact ⟨AN,AN⟩));revert F hp hq r1 O U G r2 r3;refine eF ap ?_;intro F hp hq r1 O U G r2 r3;clear ap;refine kC (ak.out _ Ae Ae) ?_;rintro _ aq ⟨⟨⟩,ay⟩;have db:=ay.size;revert ae N Y F hp hq O U G r2 r3;refine eE ay ?_;intro ae N Y F hp hq O U G r2 r3;clear ay;refine C1 Pa (cT (Aj (cS (C1 Mv (C1 V3 (cT (DA (Ao (Ai (Aj ?_))))))))))
    by_cases a6:uk=vk
    . have cw:¬uk≠vk:=λh=>h a6
      focus
       refine Aj (Aq (λwz=>Ext aq wz) 22 (.pure 0 (.pure 1 (.pure 2 (.pure 3 (.pure 4 (.pure 5 (.pure 6 (.pure 7 (.pure 8 (.pure 9 (.pure 10 (.pure 11 (.pure 12 (.pure 13 (.pure 14 (.pure 15 (.pure 16 (.pure 17 (.pure 18 (.pure 19 (.pure 20 (.pure 21 .tail)))))))))))))))))))))) mixed AU (Aa (Aa (Af (Aa (Aa (Af (Aa Ag))))))) ?_);intro bz a7 _;have bj:(λwz=>Ext aq wz) bz:=a7;simp only at bj;have ah:=ae;have Z:=G;have ar:=r2;have ef:=a7.size;revert ae N Y F hp hq O U G r3;refine eE a7 ?_;intro ae N Y F hp hq O U G r3;clear a7;refine ⟨bj,?_⟩;refine eT ?_;refine Tq rfl (Ap Ac rfl rfl rfl (λwz hz=>mO (mJ Z hz) rfl)) ?_;refine eT ?_;refine Tq rfl (Dr ar) ?_;refine eT ?_;refine Ld rfl rfl rfl rfl (Gp Ae) (Ap Ac rfl rfl rfl (λwz hz=>mO (mJ Z hz) rfl)) rfl (Ld rfl rfl rfl rfl (Gp Ae) (Av rfl) rfl (Ld rfl rfl rfl rfl (Gp Ae) (AK Ac rfl rfl rfl rfl Ab Ab) rfl (Ld rfl rfl rfl rfl (Gp Ae) (AX Ac rfl rfl rfl) rfl (Ld rfl rfl rfl rfl (Gp Ae) (Ap Ac rfl rfl rfl (λwz hz=>nJ (mJ ar hz) rfl)) rfl (Ld rfl rfl rfl rfl (Gp Ae) (AX Ac rfl rfl rfl) rfl (Ld rfl rfl rfl rfl (Gp Ae) (Ap Ac rfl rfl rfl (λwz hz=>mM (mN ah hz) rfl)) rfl (Ar rfl ?_)))))))
       refine eK ?_;refine BT rfl (λcx=>?_) (λcx=>?_);refine eK ?_;refine AT rfl rfl ?_;rotate_left;refine eK ?_;refine Aq (λwz=>Ext bz wz) 8 (.pure 0 (.pure 1 (.pure 2 (.pure 3 (.pure 4 (.pure 5 (.pure 6 (.pure 7 .tail)))))))) mixed AU (Af (Aa (Aa (Af (Aa Ag))))) ?_;intro cy a8 _;have bk:(λwz=>Ext bz wz) cy:=a8;simp only at bk;have ah:=ae;have Z:=G;have cd:=r3;have eg:=a8.size;revert N Y F hp hq O U G;refine eE a8 ?_;intro N Y F hp hq O U G;clear a8;refine ⟨bk,?_⟩;refine Tq rfl (BW [_,_,_] Ac rfl rfl rfl (λwz hz=>(mN ah hz)) rfl rfl) ?_;refine eT ?_;refine Tq rfl (Dr Z) (Tq rfl Mv (Tq rfl Pi (Tq rfl (Ap Ac rfl rfl rfl (λwz hz=>mO (mJ cd hz) rfl)) (Ar rfl (eQ rfl (b8.out _ Ae Ae (λb hb=>aj.out b Ab)) ?_)))));rintro _ dc ⟨b0,b1,b2,⟨⟩,bl,dd,de,df,af⟩;have dg:=af.size;clear ae N Y;replace F:=mL F af (s1);replace hp:=nd hp af (s5);replace hq:=Rows.fr hq af (s5);clear r1 r0;replace O:=nd O af (s3);replace U:=Rows.fr U af (s4);replace G:=mT G af (s2);clear r2 r3 af;refine Ak (Ah (Ai (Al (C1 V7 (C1 Mv (Ak ?_))))));rotate_left
      . exact ad.out 7 ρj _ ab (λb hb=>aj.out b Ab) F (Ju (st:=st) (e:=7) ai (by rw [hb,AG (iH Ae)]) B9)
      . refine AA (j+1) sB ⟨cs++[c],b2,b0,b1,Ab,ab.trans bl Ab,Ae,Ae,by rw [cr];assumption,Ae,Ae,Ae,Ae,Ae,Ae,Ab,?_,?_,by simp [cp]⟩ Ab
        . rw [bl V Ab,bx]
        . rw [hb,At (λh=>by rcases h with h|h;exact h a6;exact absurd h (Decidable.not_not.2 Ae))]
          simp
    . have cw:uk≠vk:=a6;have he:=Ju (st:=st) (e:=7) ai (by rw [hb,AG (iG a6)]) B9
      refine Aj (Aq (λwz=>Ext aq wz) 22 (.pure 0 (.pure 1 (.pure 2 (.pure 3 (.pure 4 (.pure 5 (.pure 6 (.pure 7 (.pure 8 (.pure 9 (.pure 10 (.pure 11 (.pure 12 (.pure 13 (.pure 14 (.pure 15 (.pure 16 (.pure 17 (.pure 18 (.pure 19 (.pure 20 (.pure 21 .tail)))))))))))))))))))))) mixed AU (Aa (Aa (Af (Aa (Aa (Af (Aa Ag))))))) ?_);intro cz a9 _;have bm:(λwz=>Ext aq wz) cz:=a9;simp only at bm;have ah:=ae;have Z:=G;have ar:=r2;have eh:=a9.size;replace F:=F.ext a9;clear a9;refine ⟨bm,?_⟩;refine eT ?_;refine Tq rfl (Ap Ac rfl rfl rfl (λwz hz=>mO (mJ Z hz) rfl)) ?_;refine eT ?_;refine Tq rfl (Dr ar) ?_;refine eT ?_;refine Ar rfl ?_;refine eK ?_;refine AT rfl rfl ?_
      exact ad.out 7 ρj _ ab (λb hb=>aj.out b Ab) F he
 . obtain rfl:j=ps.length:=by omega
   have hS:=HS.out.moveN F (λk M=>by rw [hn];exact iH M) ab aj.out
   have ce:BS st.cur ps qs=(0,cs):=by
    rw [hb,ly]
    simp [BS]
   have c0:ρj sb = .store:=hS.role;obtain ⟨bv,bc,ei,ej,tp,ds,aa,al,ba,cf⟩:=hS.push;rw [hn] at al;rw [iZ] at Y;obtain ⟨an,ao,rfl⟩:=al.shape;obtain ⟨xa,xc,rfl⟩:=Y.v.1.shape;obtain ⟨ya,yc,rfl⟩:=Y.c.1.shape
   have he:st.enters ps qs=if 100<=n then (19,st) else (0,{ st with calls:=st.calls++[⟨ps,cs,0⟩] }):=by
    unfold nr
    rw [At Ab,At (by rw [ce];exact λh=>h rfl),hn,ce]
   by_cases bn:100<=n
   . rw [AG bn] at he
     refine eK ?_;refine AT rfl rfl ?_
     exact ad.out 19 ρj _ ab (λb hb=>aj.out b Ab) F he
   . rw [At bn] at he;rw [he];have F2:=mI (λk=>k=sb\/(jf an n ao).ownBlock=some k) w1;have c1:=iF cf;have F1:=iF F;have ek:=aa.lt;have c2:=iF Y
     have d1:∀k,(jf an n ao).ownBlock=some k -> ¬k=sb:=λk M e=>by subst e;have:=ba k M;rw [c0] at this;cases this
     have d2:¬(jf an n ao).ownBlock=some sb:=λh=>d1 sb h rfl
     have d3:¬(jf an n ao).ownBlock=some V:=λh=>by have:=ba V h;rw [bx] at this;cases this
     have d4:∀k,(jf an n ao).ownBlock=some k->k<w1.heap.size:=λk M=>(al.blk M).2
     clear hS Y O U hp hq G
     refine eK ?_;refine Aq (λwz=>Fr ((λk=>(jf an n ao).ownBlock=some k)) w1 wz) 8 (.pure 0 (.pure 1 (.pure 2 (.pure 3 (.pure 4 (.pure 5 (.fork 6 (.fork 7 .tail .none) .none))))))) mixed AU (Aa Ag) ?_;intro c3 bb _;have ag:(λwz=>Fr ((λk=>(jf an n ao).ownBlock=some k)) w1 wz) c3:=mG bb;simp only at ag;have bd:=aa;have be:=N;have el:=bb.size;revert aa al F2;refine eE bb ?_;intro aa al F2;clear bb;refine ⟨ag,?_⟩;refine eT ?_;refine Tq rfl (Ap Ac rfl rfl rfl (λwz hz=>mM (mH bd hz (by first|omega|(dsimp only;omega))) rfl)) (Tq rfl (BE Ac rfl rfl rfl (λwz hz=>(mT (Win.blk be) hz (by first|omega|(dsimp only;omega)))) rfl) ?_);refine AC rfl (Df [_,_,_] Ac CC rfl rfl rfl rfl rfl rfl rfl rfl rfl) rfl ?_ aFh Ay;rintro _ bf ⟨em,rfl,az,c4⟩;clear c4;have bo:=az.blk;dsimp only at bo;have bp:=az.ext;have dh:=az.pos;have di:=az.size;clear az;revert ag aa al F2;refine eE bp ?_;intro ag aa al F2;clear bp;refine ⟨ag,?_⟩;refine AC rfl (Fu Ac CC rfl rfl rfl rfl AU rfl rfl rfl Ae (mS Ae) rfl rfl Ab Ab (iT _)) rfl ?_ aFh Ay;rintro _ au ⟨bq,cj,rfl,br,am,bs,cg⟩;have dk:=am.size
     clear bo;replace ag:=mL ag am (λk M=>iG M);replace aa:=mH aa am (d2);clear al;replace F2:=mL F2 am (λk M=>iG (iH M));clear am;refine ⟨ag,?_⟩;refine Ar rfl ?_;refine eK ?_;refine eV [_] [_,_,_,_,_] aa ?_;intro ch ci a0 dl;clear aa;replace br:=mY br a0 (λk M hS=>by (obtain rfl:=iQ (show some bq=some k from M);rcases bs with h|h;exact d1 _ h hS;omega));clear N;replace F2:=mL F2 a0 (λk M=>iG (iG M));clear a0;refine eK ?_;refine AT rfl rfl ?_
     have a1:Ro ρj (VL ρj bf au .calls) w1:=λb hb=>XA ρj bf au .calls b Ab
     refine ⟨VL ρj bf au .calls,κ,rfl,ab.trans a1 cq,c1.out _ ch ⟨ps,cs,0⟩ _ _ _ a1 (λb hb=>OE (w:=bf) (w':=au) (λb hb=>aj.out b Ab) Ab b Ab) F2 ci (by rw [hn];assumption) (λk M=>?_) (by rw [hn];exact c2.out),(F1.out.weaken (T:=λk=>MZ (ρ k)) (λk M=>by rcases M with h|h<;>rw [h]<;>trivial)).fr F2 (λk M=>?_)⟩
     . obtain rfl:=iQ (show some bq=some k from M)
       rcases bs with h|h
       . have:=d4 _ h;rw [a1 _ this]
         exact ba _ h
       . exact Uk ρj .calls h cg
     . rcases M with rfl|M
       . left;rw [bt];trivial
       . rcases i7 k w.heap.size with h|h
         . left;rw [<-ab k h,ba k M];trivial
         . exact iH h
end
def RI (xs:List Int) (zs:lV) (i:Nat) (u:Int) (h:i<xs.length):A8 (AZ xs++zs) i [.int .i64 u]=AZ (xs.set i u)++zs:=by
 simp only [A8];rw [List.set_append_left _ _ (by simpa [AZ] using h)];simp [AZ,List.map_set]
def Co {l:Sl} {tab:Tab} {t cap:Nat} {s:Sk} (TT:TabOk P tab) (ht:AD tab t=some (s,1)) (hx:ev l x=some (.pointer (some ⟨g,0+i*1,none⟩))) (hy:ev l y=some (.int .i64 u))
 (ho:OwnI w 0 (.slice (some ⟨g,0,none⟩) n cap) xs) (hi:i<xs.length) :
 BG P m l (.store t x y) ty w (GV λw'=>OwnI w' 0 (.slice (some ⟨g,0,none⟩) n cap) (xs.set i u)/\Fr (· = g) w w'/\w'.heap.size=w.heap.size):=by
 unfold BG;intro a dst pos after g' next Q ha _ hn;rcases ho.open with ⟨h1,-⟩|⟨g0,b,zs,h1,h2,h3,h4,h5⟩
 . cases h1
 simp only [jm,iL,kN,and_true] at h1;obtain ⟨rfl,rfl,rfl⟩:=h1;rw [jC,lf] at hx;obtain ⟨w1,e1,e2,e3⟩:=Ff (P:=P) [.int .i64 u] w g i 0 (AZ xs++zs) h3 (by simp [AZ];omega) (by rfl);have e:(execOp a.eval ⟨dst,.store t x y,ty,pos,after,g'⟩).run P w = .ok .skip w1:=by
  have hcs:(jz .i64 u).cells.toList=[.int .i64 u]:=rfl;have hsz:(jz .i64 u).cells.size=1:=rfl;simp only [execOp,ha.ev hx,ha.ev hy,Instr.storeAt,Instr.sureAddr,iV,je,iP,storeVar,Cb (TT _ _ _ ht),hsz,hcs];simp only [ne_eq,not_true,if_false,e1]
 unfold kh;rw [e];rw [kK,RI xs zs i u hi] at e3;have hl:(xs.set i u).length=xs.length:=kg;refine hn _ ⟨?_,e2.fr,e2.size⟩;have:=OwnI.mk (iT _) e3 (by rw [hl];omega);rw [hl,h4] at this;exact this
section
variable {ρ':Nat->Rl} {K:List (Int×Int)}
def StoreAt.setCell (h:StoreAt ρ κ w sb st) (x:Fr (λk=>ρ k = .cell c\/ρ k = .items c) w w') (O:Ro ρ ρ' w) (V:Fresh ρ' w') (hc:CellAt ρ' κ w' c ys):StoreAt ρ' κ w' sb (st.all c ys):=by
 obtain ⟨Y,-,⟨bv,bc,cv,tb,cs,Z,h3,h4,h5,h6⟩,h7⟩:=h;have X:=Z.lt;have M:∀ {r:Rl},r≠.cell c->r≠.items c -> ∀k,(ρ k = .cell c\/ρ k = .items c)->ρ k≠r:=λn1 n2 k G e=>by
  rcases G with h|h
  . exact n1 (by rw [<-e,h])
  . exact n2 (by rw [<-e,h])
 refine ⟨by rw [O _ X,Y],V,⟨bv,bc,cv,tb,cs,Z.fr x (λhS=>M (r:=.store) AN AN _ hS Y),h3.move x (λk G=>⟨M AN AN k G,M AN AN k G⟩) O (λ_ _=>rfl),h4.move x (M AN AN) O,FramesOk.move x O _ _ _ h5 (λk G i _ _=>⟨M AN AN k G,M AN AN k G⟩) (λ_ _ _ _=>rfl),h6.move x (λk G=>⟨M AN AN k G,M AN AN k G,M AN AN k G⟩) O⟩,λd xs N=>?_⟩;by_cases U:d=c
 . subst U;unfold Stp.all at N;simp only [l5] at N;cases hh:st.heap[d]? with
   | none=>rw [hh] at N;cases N
   | some q=>
    rw [hh] at N;simp only [mA,ky,Function.const,iL] at N;subst N;exact hc
 . unfold Stp.all at N;simp only at N;rw [jy (l8 U)] at N;exact (h7 d xs N).move x (λk G=>⟨M (by simp [U]) AN k G,M AN (by simp [U]) k G⟩) O rfl
def StoreAt.set2 (h:StoreAt ρ κ w sb st) {d:Nat} (ac:c≠d) (x:Fr (λk=>(ρ k = .cell c\/ρ k = .items c)\/ρ k = .cell d\/ρ k = .items d) w w') (O:Ro ρ ρ' w) (aa:Fresh ρ' w') (hc:CellAt ρ' κ w' c xs) (hd:CellAt ρ' κ w' d ys):StoreAt ρ' κ w' sb ((st.all c xs).all d ys):=by
 obtain ⟨U,-,⟨bv,bc,cv,tb,cs,V,h3,h4,h5,h6⟩,h7⟩:=h;have ab:=V.lt;have N:∀ {r:Rl},r≠.cell c->r≠.items c->r≠.cell d->r≠.items d -> ∀k,((ρ k = .cell c\/ρ k = .items c)\/ρ k = .cell d\/ρ k = .items d)->ρ k≠r:=λY Z n3 n4 k M e=>by
  rcases M with (h|h)|h|h
  . exact Y (by rw [<-e,h])
  . exact Z (by rw [<-e,h])
  . exact n3 (by rw [<-e,h])
  . exact n4 (by rw [<-e,h])
 have X:∀(e:Nat) (zs:List Int),((st.heap.set c xs).set d ys)[e]? = some zs->(e=d/\zs=ys)\/(e=c/\zs=xs)\/(e≠c/\e≠d/\st.heap[e]? = some zs):=λe zs G=>by
  rcases Decidable.em (e=d) with rfl|U
  . left;simp only [l5] at G;cases hh:(st.heap.set c xs)[e]? with
    | none=>rw [hh] at G;cases G
    | some q=>
     rw [hh] at G;simp only [mA,ky,Function.const,iL] at G;exact ⟨rfl,G.symm⟩
  . rw [jy (l8 U)] at G;rcases Decidable.em (e=c) with rfl|V
    . right;left;simp only [l5] at G;cases hh:st.heap[e]? with
      | none=>rw [hh] at G;cases G
      | some q=>
       rw [hh] at G;simp only [mA,ky,Function.const,iL] at G;exact ⟨rfl,G.symm⟩
    . rw [jy (l8 V)] at G;exact iH (iH ⟨V,U,G⟩)
 refine ⟨by rw [O _ ab,U],aa,⟨bv,bc,cv,tb,cs,V.fr x (λhS=>N (r:=.store) AN AN AN AN _ hS U),h3.move x (λk M=>⟨N AN AN AN AN k M,N AN AN AN AN k M⟩) O (λ_ _=>rfl),h4.move x (N AN AN AN AN) O,FramesOk.move x O _ _ _ h5 (λk M i _ _=>⟨N AN AN AN AN k M,N AN AN AN AN k M⟩) (λ_ _ _ _=>rfl),h6.move x (λk M=>⟨N AN AN AN AN k M,N AN AN AN AN k M,N AN AN AN AN k M⟩) O⟩,λe zs hx=>?_⟩;rcases X e zs hx with ⟨rfl,rfl⟩|⟨rfl,rfl⟩|⟨Y,Z,G⟩
 . exact hd
 . exact hc
 . exact (h7 e zs G).move x (λk M=>⟨N (by simp [Y]) AN (by simp [Z]) AN k M,N AN (by simp [Y]) AN (by simp [Z]) k M⟩) O rfl
def StoreAt.putI (h:StoreAt ρ κ w sb st) {cap:Nat} (G:ρ (κ c) = .cell c) (M:ρ g = .items c) (O:Blk w (κ c) [.slice (some ⟨g,0,none⟩) n cap]) (x:Fr (· = g) w w') (U:OwnI w' 0 (.slice (some ⟨g,0,none⟩) n cap) ys):StoreAt ρ κ w' sb (st.all c ys):=
 h.setCell (x.weaken (λk N=>iH (by rw [show k=g from N];exact M))) (Ro.refl _ _) (h.fresh.mv x) ⟨G,_,O.fr x (λe=>by rw [show κ c=g from e,M] at G;cases G),U,λk N=>by obtain rfl:=iQ (show some g=some k from N);exact M⟩
def StoreAt.openT (h:StoreAt ρ κ w sb st):∃V X Z Y tb,Blk w sb [V,X,Z,Y,pt tb]/\TapeAt ρ w tb st.tin st.tout /\
 ∀(ρ':Nat->Rl) (w':wD) (ti to:List Int),Ro ρ ρ' w->Fr (BY ρ) w w'->TapeAt ρ' w' tb ti to -> ∃U,Ro ρ' U w'/\StoreAt U κ w' sb { st with tin:=ti,tout:=to }:=by
 obtain ⟨h1,hf,⟨V,X,Y,tb,cs,h2,h3,h4,h5,h6⟩,h7⟩:=h;have aa:=h2.lt;refine ⟨V,X,_,Y,tb,h2,h6,λρ' w' ti to hr x ht=>⟨λb=>if b<w'.heap.size then ρ' b else .none,λb O=>AG O,?_⟩⟩;have hs:=x.size;have G:Ro ρ (λb=>if b<w'.heap.size then ρ' b else .none) w:=λb O=>by
  simp only;rw [AG Ab];exact hr b O
 have N:∀ {r:Rl},r≠.tape->r≠.tin->r≠.tout -> ∀k,BY ρ k->ρ k≠r:=λn1 n2 n3 k M e=>by
  rcases M with h|h|h
  . exact n1 (by rw [<-e,h])
  . exact n2 (by rw [<-e,h])
  . exact n3 (by rw [<-e,h])
 exact ⟨(G _ aa).trans h1,λb O=>At Ab,⟨V,X,Y,tb,cs,h2.fr x (λhS=>N (r:=.store) AN AN AN _ hS h1),h3.move x (λk M=>⟨N AN AN AN k M,N AN AN AN k M⟩) G (λ_ _=>rfl),h4.move x (N AN AN AN) G,FramesOk.move x G _ _ _ h5 (λk M i _ _=>⟨N AN AN AN k M,N AN AN AN k M⟩) (λ_ _ _ _=>rfl),
  ht.ro (λb O=>AG O) (iW _)⟩,λc xs hx=>(h7 c xs hx).move x (λk M=>⟨N AN AN AN k M,N AN AN AN k M⟩) G rfl⟩
structure PlaceAt (ρ:Nat->Rl) (κ:Nat->Nat) (w:wD) (c g n cap:Nat) (xs:List Int):Prop where
 hrc:ρ (κ c) = .cell c
 hrg:ρ g = .items c
 hb:Blk w (κ c) [.slice (some ⟨g,0,none⟩) n cap]
 ho:OwnI w 0 (.slice (some ⟨g,0,none⟩) n cap) xs
def PlaceAt.ext {c g n cap:Nat} {xs:List Int} (h:PlaceAt ρ κ w c g n cap xs) (x:Ext w w'):PlaceAt ρ κ w' c g n cap xs:=⟨h.hrc,h.hrg,h.hb.ext x,h.ho.ext x⟩
instance {cap:Nat}:LfE w w' (PlaceAt ρ κ w c g n cap xs) (PlaceAt ρ κ w' c g n cap xs):=⟨λx h=>Bk.PlaceAt.ext h x⟩
def PlaceAt.fr {c g n cap:Nat} {xs:List Int} (h:PlaceAt ρ κ w c g n cap xs) (x:Fr S w w') (G:∀k,S k->ρ k≠.cell c/\ρ k≠.items c):PlaceAt ρ κ w' c g n cap xs:=
 ⟨h.hrc,h.hrg,h.hb.fr x (λe=>(G _ e).1 h.hrc),h.ho.fr x (λk M N=>by obtain rfl:=iQ (show some g=some k from M);exact (G _ N).2 h.hrg)⟩
instance {cap:Nat}:LfF S w w' (PlaceAt ρ κ w c g n cap xs) (∀k,S k->ρ k≠.cell c/\ρ k≠.items c) (PlaceAt ρ κ w' c g n cap xs):=⟨λx s h=>Bk.PlaceAt.fr h x s⟩
def PlaceAt.row {cap:Nat} (h:PlaceAt ρ κ w c g n cap xs) (M:i<xs.length):Row w ⟨g,0+i*1,none⟩ [.int .i64 (xs.getD i 0)]:=by
 rcases h.ho.at with G|⟨b,o,G,-,N⟩
 . have:xs=[]:=List.map_eq_nil_iff.1 G;subst this;simp at M
 . simp only [iL,kN,and_true] at G;obtain ⟨rfl,rfl⟩:=G;exact nI N M
def PlaceAt.lt {c g n cap:Nat} {xs:List Int} (h:PlaceAt ρ κ w c g n cap xs):g<w.heap.size:=(h.ho.lt (k:=g) rfl).2
def dB (hw:st.WF K m) {d cap:Nat} (hd:d<st.heap.length) (af:c≠d) (bl:(st.items d).length<=1000) (hi:i<(st.items c).length) (k:Int) (G:k=44\/k=45) (w:wD) (h:StoreAt ρ κ w sb st) (O:PlaceAt ρ κ w c g n cap (st.items c)) :
 Calls prog 227 #[.int .u8 k,.pointer (some ⟨g,0+i*1,none⟩),pt (κ d)] w (StR ρ sb (st.move k c i d).2 (st.move k c i d).1 w):=by
 have X:=Ne w;have ba:=O.row hi;obtain ⟨Y,vd,N,ac,U⟩:=h.cells _ _ (ES hd);obtain ⟨ad,cd,rfl⟩:=ac.shape;have az:=O.lt;rcases G with rfl|rfl
 . by_cases hf:1000<=(st.items d).length
   . have e:st.move 44 c i d=(5,st):=by unfold nh;rw [AG rfl,AG hf]
     rw [e];generalize (st.items d).length=dn at *;generalize κ d=db at *;clear O;refine Ad func227 ntmps227 rfl rfl ?_;refine kR ?_;exact StR.same Ae X
   . have e:st.move 44 c i d=(0,(st.all d (st.items d++[(st.items c).getD i 0])).put c i 0):=by unfold nh;rw [AG rfl,At hf]
     rw [e];have M:Own w 0 3 1 (.slice ad (st.items d).length cd) (st.items d).length (AZ (st.items d)):=ac;have F:=mI (λk=>ρ k = .cell d\/ρ k = .items d) w;have q1:∀k,(jf ad (st.items d).length cd).ownBlock=some k -> ¬k=κ d:=λk G e=>by have:=U k G;rw [e,Y] at this;cases this
     have q2:∀k,(jf ad (st.items d).length cd).ownBlock=some k -> ¬k=g:=λk G e=>by have:=U k G;rw [e,O.hrg] at this;simp at this;exact af this
     have q3:∀k,(jf ad (st.items d).length cd).ownBlock=some k->ρ k≠.cell c/\ρ k≠.items c:=λk G=>by rw [U k G];exact ⟨AN,by simp;omega⟩
     have q4:∀k,k=κ d->ρ k≠.cell c/\ρ k≠.items c:=λk G=>by rw [G,Y];exact ⟨by simp;omega,AN⟩
     have q5:∀k,(jf ad (st.items d).length cd).ownBlock=some k->k<w.heap.size:=λk G=>(M.blk G).2
     have a0:=N.lt;have HS:=iF h;clear h ac;refine Ad func227 ntmps227 rfl rfl ?_;refine eK ?_;refine Aq (λwz=>Fr ((λk=>(jf ad (st.items d).length cd).ownBlock=some k)) w wz) 10 (.pure 0 (.pure 1 (.pure 2 (.pure 3 (.pure 4 (.pure 5 (.pure 6 (.pure 7 (.fork 8 (.fork 9 .tail .none) .none))))))))) mixed AU (Aa (Af (Aa Ag))) ?_;intro bb a1 _;have V:(λwz=>Fr ((λk=>(jf ad (st.items d).length cd).ownBlock=some k)) w wz) bb:=mG a1;simp only at V;have ar:=ba;have au:=N;revert O N M F;refine eY a1 ?_;intro bm O N M F;refine ⟨V,?_⟩;refine eT ?_;refine Tq rfl (Ap Ac rfl rfl rfl (λwz hz=>mM (mH au hz (λh=>q1 _ h rfl)) rfl)) (Tq rfl Mv (Tq rfl Pn (Tq rfl (Ap Ac rfl rfl rfl (λwz hz=>mO (mT ar hz (λh=>q2 _ h rfl)) rfl)) ?_)));refine AC rfl (xS [_]) rfl ?_ aFh Ay;rintro _ ag ⟨bn,rfl,al,bo⟩;have bg:=al.blk;have a2:=al.ext;have bh:=al.pos;have bi:=al.size;revert V O N M F;refine eE a2 ?_;intro V O N M F;refine ⟨V,?_⟩;refine AC rfl (Fu Ac CC rfl rfl rfl rfl AU rfl rfl rfl Ae (mS Ae) rfl rfl Ab Ab (iT _)) rfl ?_ aFh Ay;rintro _ Z ⟨ah,am,rfl,ap,aa,aq,a3⟩;have bj:=aa.size;have V:=mL V aa (λk G=>iG G);have O:=PlaceAt.fr O aa (q3);have N:=mH N aa (λh=>q1 _ h rfl);clear M;have F:=mL F aa (λk G=>iG (iH (U k G)));refine ⟨V,?_⟩;refine Ar rfl ?_;refine eK ?_;refine eS [_] N ?_;intro ai a4 aj bk;clear N;have ap:=mY ap aj (λk G hS=>by (obtain rfl:=iQ (show some ah=some k from G);rcases aq with h|h;exact q1 _ h hS;omega));have O:=PlaceAt.fr O aj (q4);have F:=mL F aj (λk G=>iG (iG (by rw [show k=κ d from G];exact Y)));refine eK ?_
     have ab:Ro ρ (VL ρ ag Z (.items d)) w:=λb hb=>XA ρ ag Z _ b Ab
     have a5:=HS.out.fresh;have h1:=HS.out.setCell (ρ':=VL ρ ag Z (.items d)) (ys:=st.items d++[(st.items c).getD i 0]) F ab (λb hb=>OE (w:=ag) (w':=Z) (λb hb=>a5 b Ab) Ab b Ab) ⟨by rw [ab _ a0];exact Y,_,a4,(by
      have h9:Own ai 0 3 1 (.slice (some ⟨ah,0,none⟩) ((st.items d).length+1) am) ((st.items d).length+1) (AZ (st.items d)++[.int .i64 ((st.items c).getD i 0)]):=by assumption
      unfold OwnI;rw [Ht,iX];exact h9),λk G=>by
      obtain rfl:=iQ (show some ah=some k from G);rcases aq with h|h
      . rw [ab _ (q5 _ h)];exact U _ h
      . exact Uk ρ _ h a3⟩
     have bc:κ c<w.heap.size:=by
      rcases i7 (κ c) w.heap.size with h|h
      . exact h
      . have:=O.hrc;rw [a5 _ h] at this;cases this
     have an:PlaceAt (VL ρ ag Z (.items d)) κ ai c g n cap (st.items c):=⟨by rw [ab _ bc];exact O.hrc,by rw [ab _ az];exact O.hrg,O.hb,O.ho⟩;have F2:=mI (· = g) ai;have ho:=O.ho;have HF:=iF F;have Hp:=iF an;have H1:=iF h1;clear F O an h1;refine A7 (Co Ac rfl rfl rfl Ae hi) (BJ ?_);rintro _ bp ⟨bd,a6,bq⟩;have F2:=F2.fr a6 Ab;clear ho a6;refine kR ?_;have a7:=Hp.out.hrg;rw [ab _ az] at a7;have h2:=H1.out.putI Hp.out.hrc Hp.out.hrg Hp.out.hb F2 bd;exact ⟨_,κ,rfl,ab,(by unfold Stp.put;rw [CQ,At (λh=>af h.1)];exact h2),(HF.out.weaken (T:=λk=>MZ (ρ k)) (λk G=>by rcases G with h|h<;>rw [h]<;>trivial)).fr F2 (λk G=>iG (by rw [show k=g from G,a7];trivial))⟩
 . rcases jF (st.items d) with hy|⟨ys,v,hy⟩
   . have e:st.move 45 c i d=(13,st):=by unfold nh;rw [At B9,hy];rfl
     rw [e];have hn:(st.items d).length=0:=by rw [hy];rfl
     generalize (st.items d).length=dn at *;generalize κ d=db at *;clear O;refine Ad func227 ntmps227 rfl rfl ?_;refine kR ?_;exact StR.same Ae X
   rw [jU] at hy;have hn:(st.items d).length=ys.length+1:=by rw [hy];simp
   have ak:(st.items d).getLast? = some v:=by rw [hy];simp
   have av:(st.items d).dropLast=ys:=by rw [hy];simp
   by_cases h0:(st.items c).getD i 0≠0
   . have e:st.move 45 c i d=(14,st):=by unfold nh;rw [At B9,ak];simp only;rw [AG h0]
     rw [e];generalize (st.items d).length=dn at *;generalize (st.items c).getD i 0=v0 at *;generalize κ d=db at *;clear O;refine Ad func227 ntmps227 rfl rfl ?_;refine kR ?_;exact StR.same Ae X
   . have e:st.move 45 c i d=(0,(st.put c i v).all d ys):=by unfold nh;rw [At B9,ak];simp only;rw [At h0,av]
     rw [e];have M:Own w 0 3 1 (.slice ad (st.items d).length cd) (st.items d).length (AZ (st.items d)):=ac;have br:=M.le;obtain ⟨gd,go,rfl,a8⟩:=ac.at.get (by intro e;rw [e] at hn;simp at hn);have r2:=nI a8 (i:=(((st.items d).length:Int)-1).toNat) Ab;rw [show (st.items d).getD (((st.items d).length:Int)-1).toNat 0=v by rw [hn,show (((ys.length+1:Nat):Int)-1).toNat=ys.length by omega,hy];simp] at r2;have an:((st.items d).length:Int)-1=(ys.length:Int):=by omega
     have be:ys.length<=cd:=by omega
     rw [hn,hy,Ht] at M;have M:=M.cut (m:=ys.length) (by simp [AZ]) Ab;have q1:∀k,(jf (some ⟨gd,go,none⟩) ys.length cd).ownBlock=some k -> ¬k=κ d:=λk G e=>by have:=U k G;rw [e,Y] at this;cases this
     have q2:∀k,(jf (some ⟨gd,go,none⟩) ys.length cd).ownBlock=some k -> ¬k=g:=λk G e=>by have:=U k G;rw [e,O.hrg] at this;simp at this;exact af this
     have q3:¬ κ d=g:=λe=>by rw [e,O.hrg] at Y;cases Y
     have ho:=O.ho;have Hp:=iF O;have HS:=iF h;have F:=mI (λk=>k=g\/k=κ d) w;clear h ac O a8;refine Ad func227 ntmps227 rfl rfl ?_;refine eK ?_;refine C1 (AL rfl rfl (iO _ Ab)) ?_;refine eK ?_;refine A7 (Co Ac rfl rfl rfl Ae hi) (BJ ?_);rintro _ bs ⟨aw,ax,bt⟩;have N:=mH N ax (q3);have M:=mY M ax (q2);clear ho;have F:=F.fr ax Ab;refine eK ?_;refine C1 (AL rfl rfl (iO _ Ab)) (C1 (DN Ac rfl rfl rfl rfl an be) ?_);refine eK ?_;refine eS [_] N ?_;intro bu a9 ay _;clear N;have aw:=nx aw ay (λk G=>by simp only [Go.Value.ownBlock,iL] at G;omega);have M:=mY M ay (q1);have F:=mL F ay (λk G=>iG (iH G));refine kR ?_;have ao:=Hp.out.hrg;have ae:=Hp.out.hrc;have bf:=Hp.out.hb.fr F (λe=>by
      rcases e with e|e
      . rw [e,ao] at ae;cases ae
      . rw [e,Y] at ae;simp at ae;exact af ae.symm)
     exact ⟨ρ,κ,rfl,Ro.refl _ _,HS.out.set2 af (F.weaken (λk G=>by rcases G with rfl|rfl;exact iG (iH ao);exact iH (iG Y))) (Ro.refl _ _) (HS.out.fresh.mv F) ⟨ae,_,bf,aw,λk G=>by obtain rfl:=iQ (show some g=some k from G);exact ao⟩ ⟨Y,_,a9,M,U⟩,F.weaken (λk G=>by rcases G with rfl|rfl;rw [ao];trivial;rw [Y];trivial)⟩
def Kr {cap:Nat} {v:Int} {ρ1:Nat->Rl} {O:wD} {ti to:List Int} (M:PlaceAt ρ κ w c g n cap (st.items c)) (hr:Ro ρ ρ1 w) (h1:∃G,Ro ρ1 G w1/\StoreAt G κ w1 sb { st with tin:=ti,tout:=to }) (U:Fr (BY ρ) w w1) (x2:Fr (· = g) w1 O) (ho:OwnI O 0 (.slice (some ⟨g,0,none⟩) n cap) ((st.items c).set i v)) :
 StR ρ sb { st.put c i v with tin:=ti,tout:=to } 0 w (.returned (.int .i64 0)) O:=by
 obtain ⟨G,V,h2⟩:=h1;have hs:=U.size;have N:=hr.trans V hs;have X:=M.lt;have Y:=M.hb.lt;have Z:=M.hb.fr U (λh=>by rcases h with h|h|h<;>rw [M.hrc] at h<;>cases h);have h3:=h2.putI (c:=c) (g:=g) (n:=n) (cap:=cap) (by rw [N _ Y];exact M.hrc) (by rw [N _ X];exact M.hrg) Z x2 ho;refine ⟨G,κ,rfl,N,h3,(U.weaken (T:=λk=>MZ (ρ k)) (λk hk=>by rcases hk with h|h|h<;>rw [h]<;>trivial)).fr x2 (λk hk=>iG (by rw [show k=g from hk,M.hrg];trivial))⟩
def GB {r:Int} {N:Nat->Rl} (U:Ro ρ N w) (V:∃G,Ro N G w1/\StoreAt G κ w1 sb st) (O:Fr (BY ρ) w w1):StR ρ sb st r w (.returned (.int .i64 r)) w1:=by
 obtain ⟨G,M,X⟩:=V;exact ⟨G,κ,rfl,U.trans M O.size,X,O.weaken (λk Y=>by rcases Y with h|h|h<;>rw [h]<;>trivial)⟩
def XD {cap:Nat} (hi:i<(st.items c).length) (w:wD) (h:StoreAt ρ κ w sb st) (hp:PlaceAt ρ κ w c g n cap (st.items c)) :
 Calls prog 228 #[pt sb,.int .u8 46,.pointer (some ⟨g,0+i*1,none⟩)] w (StR ρ sb (st.transfer 46 c i).2 (st.transfer 46 c i).1 w):=by
 obtain ⟨bv,bc,aj,cv,tb,hb,ht,aa⟩:=h.openT;have U:=hp.row hi;have V:=ht.li;have ab:=h.role;have O:=iF aa;have Hp:=iF hp;have F:=mI (BY ρ) w;have q1:¬BY ρ g:=λh=>by rcases h with h|h|h<;>rw [hp.hrg] at h<;>cases h
 have q2:¬BY ρ sb:=λh=>by rcases h with h|h|h<;>rw [ab] at h<;>cases h
 have ho:=hp.ho;have q3:∀k,(jf (some ⟨g,0,none⟩) n cap).ownBlock=some k -> ¬BY ρ k:=λk N=>by obtain rfl:=iQ (show some g=some k from N);exact q1
 cases hti:st.tin with
 | nil=>
  have e:st.transfer 46 c i=(17,st):=by unfold mP;rw [AG rfl,hti]
  rw [e];rw [hti] at ht;have hR:=iF (λw1 h=>Xw ρ tb st.tout w1 h);refine Ad func228 ntmps228 rfl rfl (eK ?_);refine C1 (A1 Ac rfl rfl) (kQ (hR.out _ Ae) ?_);rintro _ w5 ⟨ak,⟨⟩,h2,h3,f4⟩;have F:=mL F f4 (λk N=>iG N);refine kR ?_;exact GB h2 (by
   have h9:=O.out _ _ _ _ h2 F h3;rwa [show ({ st with tin:=[],tout:=st.tout }:Stp)=st by rw [<-hti]] at h9) F
 | cons v r=>
  rw [hti] at ht V;simp only [iM] at V;have e:st.transfer 46 c i=if (st.items c).getD i 0≠0 then (14,st) else (0,{ st.put c i v with tin:=r }):=by unfold mP;rw [AG rfl,hti]
  rw [e];have hR:=iF (λw1 h=>ZK ρ tb v r st.tout w1 h);have hU:=iF (λρ1 w1 h=>OA ρ1 tb v r st.tout w1 h Ab);generalize al:(st.items c).getD i 0=v0 at *;refine Ad func228 ntmps228 rfl rfl ?_
  focus
   refine eK ?_;refine C1 (A1 Ac rfl rfl) (kQ (hR.out _ Ae) ?_);rintro _ ac ⟨ag,⟨⟩,G,ad,M⟩;have am:=M.size;have hb:=mH hb M (q2);have F:=mL F M (λk N=>iG N);have ho:=nx ho M (q3);have U:=mT U M (q1);refine eK ?_;refine BT rfl (λae=>?_) (λae=>?_);refine kQ (hU.out _ _ Ae) ?_;rintro _ ah ⟨ai,⟨⟩,X,Y,Z⟩;have F:=mL F Z (λk N=>by (rcases i7 k w.heap.size with h|h;left;unfold BY at N ⊢;rw [G k h] at N;exact N;exact iH h));refine eK ?_;rotate_left;refine eK ?_;rotate_left
  . have h9:=O.out _ _ _ _ (G.trans X Ab) F Y;rw [show ({ st with tin:=v::r,tout:=st.tout }:Stp)=st by rw [<-hti]] at h9;have H9:=iF h9;rw [AG Ae];refine kR ?_;exact GB (G.trans X Ab) H9.out F
  . have H9:=iF (O.out _ _ _ _ G F ad);have F2:=mI (· = g) ac;have F1:=iF F;rw [At (λh=>h Ae)];refine eK ?_;refine A7 (Co Ac rfl rfl rfl Ae hi) (BJ ?_);rintro _ an ⟨ao,af,ap⟩;have F2:=F2.fr af Ab;refine kR ?_;exact Kr Hp.out G H9.out F1.out F2 Ae
def XE {cap:Nat} (hi:i<(st.items c).length) (w:wD) (h:StoreAt ρ κ w sb st) (hp:PlaceAt ρ κ w c g n cap (st.items c)) :
 Calls prog 228 #[pt sb,.int .u8 49,.pointer (some ⟨g,0+i*1,none⟩)] w (StR ρ sb (st.transfer 49 c i).2 (st.transfer 49 c i).1 w):=by
 obtain ⟨bv,bc,ak,cv,tb,hb,ht,ab⟩:=h.openT;have V:=hp.row hi;have X:=ht.lo;have ac:=h.role;have U:=iF ab;have Hp:=iF hp;have F:=mI (BY ρ) w;have q1:¬BY ρ g:=λh=>by rcases h with h|h|h<;>rw [hp.hrg] at h<;>cases h
 have q2:¬BY ρ sb:=λh=>by rcases h with h|h|h<;>rw [ac] at h<;>cases h
 have ho:=hp.ho;have q3:∀k,(jf (some ⟨g,0,none⟩) n cap).ownBlock=some k -> ¬BY ρ k:=λk O=>by obtain rfl:=iQ (show some g=some k from O);exact q1
 rcases jF st.tout with G|⟨r,v,G⟩
 . have e:st.transfer 49 c i=(17,st):=by unfold mP;rw [At B9,At B9,At B9,G];rfl
   rw [e];rw [G] at ht;have hR:=iF (λw1 h=>Rw ρ tb st.tin w1 h);refine Ad func228 ntmps228 rfl rfl (eK ?_);refine C1 (A1 Ac rfl rfl) (kQ (hR.out _ Ae) ?_);rintro _ w5 ⟨al,⟨⟩,h2,h3,f4⟩;have F:=mL F f4 (λk O=>iG O);refine kR ?_;exact GB h2 (by
    have h9:=U.out _ _ _ _ h2 F h3;rwa [show ({ st with tin:=st.tin,tout:=[] }:Stp)=st by rw [<-G]] at h9) F
 . rw [jU] at G;rw [G] at ht X;simp only [iX,kn] at X;have e:st.transfer 49 c i=if (st.items c).getD i 0≠0 then (14,st) else (0,{ st.put c i v with tout:=r }):=by unfold mP;rw [At B9,At B9,At B9,show st.tout.getLast? = some v by rw [G];simp,show st.tout.dropLast=r by rw [G];simp]
   rw [e];have hR:=iF (λw1 h=>Tf ρ tb v st.tin r w1 h);have hU:=iF (λρ1 w1 h=>Rx ρ1 tb v st.tin r w1 h Ab);generalize am:(st.items c).getD i 0=v0 at *;refine Ad func228 ntmps228 rfl rfl ?_
   focus
    refine eK ?_;refine C1 (A1 Ac rfl rfl) (kQ (hR.out _ Ae) ?_);rintro _ ad ⟨ah,⟨⟩,M,ae,N⟩;have an:=N.size;have hb:=mH hb N (q2);have F:=mL F N (λk O=>iG O);have ho:=nx ho N (q3);have V:=mT V N (q1);refine eK ?_;refine BT rfl (λaf=>?_) (λaf=>?_);refine kQ (hU.out _ _ Ae) ?_;rintro _ ai ⟨aj,⟨⟩,Y,Z,aa⟩;have F:=mL F aa (λk O=>by (rcases i7 k w.heap.size with h|h;left;unfold BY at O ⊢;rw [M k h] at O;exact O;exact iH h));refine eK ?_;rotate_left;refine eK ?_;rotate_left
   . have h9:=U.out _ _ _ _ (M.trans Y Ab) F Z;rw [show ({ st with tin:=st.tin,tout:=r++[v] }:Stp)=st by rw [<-G]] at h9;have H9:=iF h9;rw [AG Ae];refine kR ?_;exact GB (M.trans Y Ab) H9.out F
   . have H9:=iF (U.out _ _ _ _ M F ae);have F2:=mI (· = g) ad;have F1:=iF F;rw [At (λh=>h Ae)];refine eK ?_;refine A7 (Co Ac rfl rfl rfl Ae hi) (BJ ?_);rintro _ ao ⟨ap,ag,aq⟩;have F2:=F2.fr ag Ab;refine kR ?_;exact Kr Hp.out M H9.out F1.out F2 Ae
def XF {cap:Nat} (hi:i<(st.items c).length) (w:wD) (h:StoreAt ρ κ w sb st) (Z:PlaceAt ρ κ w c g n cap (st.items c)) :
 Calls prog 228 #[pt sb,.int .u8 47,.pointer (some ⟨g,0+i*1,none⟩)] w (StR ρ sb (st.transfer 47 c i).2 (st.transfer 47 c i).1 w):=by
 obtain ⟨bv,bc,am,cv,tb,N,X,aa⟩:=h.openT;have G:=Z.row hi;have an:=X.li;have ao:=X.lo;have ah:=h.role;have ab:=iF aa;have Hp:=iF Z;have F:=mI (BY ρ) w;have q1:¬BY ρ g:=λh=>by rcases h with h|h|h<;>rw [Z.hrg] at h<;>cases h
 have q2:¬BY ρ sb:=λh=>by rcases h with h|h|h<;>rw [ah] at h<;>cases h
 have O:=Z.ho;have q3:∀k,(jf (some ⟨g,0,none⟩) n cap).ownBlock=some k -> ¬BY ρ k:=λk hk=>by obtain rfl:=iQ (show some g=some k from hk);exact q1
 have ap:=Hp.out.lt;have aq:=N.lt;clear aa Z h;by_cases hf:4096<=st.tin.length
 . have e:st.transfer 47 c i=(5,st):=by unfold mP;rw [At B9,AG rfl,AG hf]
   rw [e];have hR:=iF (λw1 h=>Te ρ tb ((st.items c).getD i 0) st.tin st.tout w1 h Ab);generalize (st.items c).getD i 0=v0 at *;refine Ad func228 ntmps228 rfl rfl ?_;refine eK ?_;refine C1 (A1 Ac rfl rfl) ?_;refine eK ?_;refine Aq (λU=>Ext w U) 7 (.pure 0 (.pure 1 (.pure 2 (.pure 3 (.pure 4 (.pure 5 (.pure 6 .tail))))))) mixed AU (Af (Aa Ag)) ?_;intro w1 x2 _;have ac:(λU=>Ext w U) w1:=x2;simp only at ac;have ad:=N;have M:=G;revert N X F O G;refine eY x2 ?_;intro z4 N X F O G;refine ⟨ac,?_⟩;refine eT ?_;refine Tq rfl (Ap Ac rfl rfl rfl (λU hz=>mO (mJ M hz) rfl)) ?_;refine Ar rfl (eQ rfl (hR.out _ Ae) ?_);rintro _ w9 ⟨ar,⟨⟩,h6,h7,f8⟩;have N:=mH N f8 (q2);clear X;have F:=mL F f8 (λk hk=>iG hk);have O:=nx O f8 (q3);have G:=mT G f8 (q1);refine kR ?_;exact GB (Ro.low h6 Ab) (ab.out _ _ _ _ (Ro.low h6 Ab) F h7) F
 . have e:st.transfer 47 c i=(0,{ st.put c i 0 with tin:=(st.items c).getD i 0::st.tin }):=by unfold mP;rw [At B9,AG rfl,At hf]
   rw [e];have hR:=iF (λw1 h=>OA ρ tb ((st.items c).getD i 0) st.tin st.tout w1 h Ab);generalize (st.items c).getD i 0=v0 at *;refine Ad func228 ntmps228 rfl rfl ?_;refine eK ?_;refine C1 (A1 Ac rfl rfl) ?_;refine eK ?_;refine Aq (λU=>Ext w U) 7 (.pure 0 (.pure 1 (.pure 2 (.pure 3 (.pure 4 (.pure 5 (.pure 6 .tail))))))) mixed AU (Af (Aa Ag)) ?_;intro ai ae _;have Y:(λU=>Ext w U) ai:=ae;simp only at Y;have ad:=N;have M:=G;revert N X F O G;refine eY ae ?_;intro au N X F O G;refine ⟨Y,?_⟩;refine eT ?_;refine Tq rfl (Ap Ac rfl rfl rfl (λU hz=>mO (mJ M hz) rfl)) ?_;refine Ar rfl (eQ rfl (hR.out _ Ae) ?_);rintro _ aj ⟨al,⟨⟩,af,ag,V⟩;have N:=mH N V (q2);clear X;have F:=mL F V (λk hk=>iG hk);have O:=nx O V (q3);have G:=mT G V (q1);refine eK ?_;have H9:=iF (ab.out _ _ _ _ (Ro.low af Ab) F ag);have F2:=mI (· = g) aj;have F1:=iF F;clear F;refine eK ?_;refine A7 (Co Ac rfl rfl rfl Ae hi) (BJ ?_);rintro _ av ⟨aw,ak,ax⟩;clear ag N O G;have F2:=F2.fr ak Ab;refine kR ?_;exact Kr Hp.out (Ro.low af Ab) H9.out F1.out F2 Ae
def XG {cap:Nat} (hi:i<(st.items c).length) (w:wD) (h:StoreAt ρ κ w sb st) (Z:PlaceAt ρ κ w c g n cap (st.items c)) :
 Calls prog 228 #[pt sb,.int .u8 48,.pointer (some ⟨g,0+i*1,none⟩)] w (StR ρ sb (st.transfer 48 c i).2 (st.transfer 48 c i).1 w):=by
 obtain ⟨bv,bc,am,cv,tb,N,X,aa⟩:=h.openT;have G:=Z.row hi;have an:=X.li;have ao:=X.lo;have ah:=h.role;have ab:=iF aa;have Hp:=iF Z;have F:=mI (BY ρ) w;have q1:¬BY ρ g:=λh=>by rcases h with h|h|h<;>rw [Z.hrg] at h<;>cases h
 have q2:¬BY ρ sb:=λh=>by rcases h with h|h|h<;>rw [ah] at h<;>cases h
 have O:=Z.ho;have q3:∀k,(jf (some ⟨g,0,none⟩) n cap).ownBlock=some k -> ¬BY ρ k:=λk hk=>by obtain rfl:=iQ (show some g=some k from hk);exact q1
 have ap:=Hp.out.lt;have aq:=N.lt;clear aa Z h;by_cases hf:4096<=st.tout.length
 . have e:st.transfer 48 c i=(5,st):=by unfold mP;rw [At B9,At B9,AG rfl,AG hf]
   rw [e];have hR:=iF (λw1 h=>VF ρ tb ((st.items c).getD i 0) st.tin st.tout w1 h Ab);generalize (st.items c).getD i 0=v0 at *;refine Ad func228 ntmps228 rfl rfl ?_;refine eK ?_;refine C1 (A1 Ac rfl rfl) ?_;refine eK ?_;refine Aq (λU=>Ext w U) 7 (.pure 0 (.pure 1 (.pure 2 (.pure 3 (.pure 4 (.pure 5 (.pure 6 .tail))))))) mixed AU (Af (Aa Ag)) ?_;intro w1 x2 _;have ac:(λU=>Ext w U) w1:=x2;simp only at ac;have ad:=N;have M:=G;revert N X F O G;refine eY x2 ?_;intro z4 N X F O G;refine ⟨ac,?_⟩;refine eT ?_;refine Tq rfl (Ap Ac rfl rfl rfl (λU hz=>mO (mJ M hz) rfl)) ?_;refine Ar rfl (eQ rfl (hR.out _ Ae) ?_);rintro _ w9 ⟨ar,⟨⟩,h6,h7,f8⟩;have N:=mH N f8 (q2);clear X;have F:=mL F f8 (λk hk=>iG hk);have O:=nx O f8 (q3);have G:=mT G f8 (q1);refine kR ?_;exact GB (Ro.low h6 Ab) (ab.out _ _ _ _ (Ro.low h6 Ab) F h7) F
 . have e:st.transfer 48 c i=(0,{ st.put c i 0 with tout:=st.tout++[(st.items c).getD i 0] }):=by unfold mP;rw [At B9,At B9,AG rfl,At hf]
   rw [e];have hR:=iF (λw1 h=>Rx ρ tb ((st.items c).getD i 0) st.tin st.tout w1 h Ab);generalize (st.items c).getD i 0=v0 at *;refine Ad func228 ntmps228 rfl rfl ?_;refine eK ?_;refine C1 (A1 Ac rfl rfl) ?_;refine eK ?_;refine Aq (λU=>Ext w U) 7 (.pure 0 (.pure 1 (.pure 2 (.pure 3 (.pure 4 (.pure 5 (.pure 6 .tail))))))) mixed AU (Af (Aa Ag)) ?_;intro ai ae _;have Y:(λU=>Ext w U) ai:=ae;simp only at Y;have ad:=N;have M:=G;revert N X F O G;refine eY ae ?_;intro au N X F O G;refine ⟨Y,?_⟩;refine eT ?_;refine Tq rfl (Ap Ac rfl rfl rfl (λU hz=>mO (mJ M hz) rfl)) ?_;refine Ar rfl (eQ rfl (hR.out _ Ae) ?_);rintro _ aj ⟨al,⟨⟩,af,ag,V⟩;have N:=mH N V (q2);clear X;have F:=mL F V (λk hk=>iG hk);have O:=nx O V (q3);have G:=mT G V (q1);refine eK ?_;have H9:=iF (ab.out _ _ _ _ (Ro.low af Ab) F ag);have F2:=mI (· = g) aj;have F1:=iF F;clear F;refine eK ?_;refine A7 (Co Ac rfl rfl rfl Ae hi) (BJ ?_);rintro _ av ⟨aw,ak,ax⟩;clear ag N O G;have F2:=F2.fr ak Ab;refine kR ?_;exact Kr Hp.out (Ro.low af Ab) H9.out F1.out F2 Ae
end
def Cp (ps:List PD) (d:Nat) (b:Bool) {n:Int} (hk:k<50\/55<k) (r:Rn):Ax ps (d+1) b (.mk k n s l) r=(A6 r).bind (Cy (·.run1 (if b then Bb k else k) n s l)):=by
 conv=>lhs;unfold Ax
 rw [At Ab,At Ab,At Ab,At Ab,At Ab]
def ET (ps:List PD) (d:Nat) (b:Bool) {n:Int} (hk:k=50\/k=51) (r:Rn):Ax ps (d+1) b (.mk k n s l) r =
 (A6 r).bind λr=>(Cy (·.enters (ps.getD ((Cf ps s).getD 0) ⟨[],[],.mk 0 0 [] []⟩).params (l.map mZ)) r).bind λr=>
  (AH (Ax ps d) (b != decide (k=51)) (ps.getD ((Cf ps s).getD 0) ⟨[],[],.mk 0 0 [] []⟩).body r).bind λr=>(A6 r).bind (Cy (·.leaves)):=by
 conv=>lhs;unfold Ax
 rw [At Ab,At Ab,At Ab,At Ab,AG hk]
def Nc {f g:Nd->Rn->Except Int Rn} {q:Bool}:∀(l:List Nd),(∀t∈l,f (t.inv q)=g t)->Ei f (Cc q l)=Ei g l
 | [],_=>rfl
 | t::l,h=>by
  funext r;simp only [Ei,Cc];rw [h t AN,Nc l (λx G=>h x (by simp [G]))]
def Jv (h:t.isBlock=true):t = .mk 57 0 [] t.kids /\ ∀x∈t.kids,x.isStmt=true:=by
 obtain ⟨k,n,s,l⟩:=t;simp only [Nd.isBlock,iJ,beq_iff_eq,plain,jT] at h;obtain ⟨⟨rfl,rfl,rfl⟩,h⟩:=h;exact ⟨rfl,rowStmt_iff.1 h⟩
def Nf {f g:Bool->Nd->Rn->Except Int Rn} {q:Bool} (H:∀b t,t.isStmt=true->f b (t.inv q)=g (!b) t) (h:t.isBlock=true) (b:Bool):AH f b (t.inv q)=AH g (!b) t:=by
 obtain ⟨e,M⟩:=Jv h;generalize t.kids=l at *;subst e;rw [EK];funext r;unfold AH;simp only [Nd.kids];cases b
 . simp only [jv,if_false,Bool.not_false,if_true];rw [<-Jd,Nc l.reverse (λt G=>H false t (M t (by simpa using G)))];rfl
 . simp only [if_true,mf,mE,jv,if_false];rw [Nc l (λt G=>H true t (M t G))];rfl
def Ng (f:Bool->Nd->Rn->Except Int Rn) (b:Bool) (h:t.kids=[]):AH f b t=λr=>.ok r:=by
 funext r;unfold AH;rw [h];cases b<;>rfl
def D7 (q:Bool) (ps:List PD):List PD:=if q then ps.map (PD.map (·.inv true)) else ps
def VM (f:Nd->Nd) (ps:List PD) (s:lB):Cf (ps.map (PD.map f)) s=Cf ps s:=by
 unfold Cf;rw [List.findIdx?_map];rfl
def ZU (q:Bool) (ps:List PD) (s:lB):Cf (D7 q ps) s=Cf ps s:=by
 unfold D7;split
 . exact VM _ _ _
 . rfl
def EU (h:t.isPlace=true):t.isExpr=true:=by
 simp only [mX,iJ] at h;exact h.2
def dC (a b:Bool):((!a) != b) = !(a != b):=by cases a<;>cases b<;>rfl
def Um (q:Bool) {ps:List PD} (V:∀p∈ps,p.body.isBlock=true):∀(d:Nat) (b:Bool) (t:Nd),t.isStmt=true->Ax (D7 q ps) d b (t.inv q)=Ax ps d (!b) t
 | 0,b,t,_=>by funext r;simp [Ax]
 | d+1,b,t,h=>by
  have IH:=Um q V d;have O:∀ {x:Nd},x.isBlock=true -> ∀b,AH (Ax (D7 q ps) d) b (x.inv q)=AH (Ax ps d) (!b) x:=λh b=>Nf IH h b
  have Z:=B3 h;cases Z with
  | upd G M N=>
   rename_i k x y;rw [Pe q G (EU M) N];funext r;have Y:Bb k=40\/Bb k=41\/Bb k=42\/Bb k=56:=by unfold Bb;rcases G with rfl|rfl|rfl|rfl<;>simp
   rw [Cp _ _ _ Ab,Cp _ _ _ Ab];cases b<;>simp [Ec]
  | swap M N=>
   rename_i x y;rw [Mf q (EU M) (EU N)];funext r;rw [Cp _ _ _ Ab,Cp _ _ _ Ab];cases b<;>simp [Bb]
  | stack G hn M=>
   rename_i k s x;rw [Iq q Ab (EU M)];funext r;have Y:Bb k=44\/Bb k=45:=by unfold Bb;rcases G with rfl|rfl<;>simp
   rw [Cp _ _ _ Ab,Cp _ _ _ Ab];cases b<;>simp [Ec]
  | tape G M=>
   rename_i k x;rw [Iq q Ab (EU M)];funext r;have Y:Bb k=46\/Bb k=47\/Bb k=48\/Bb k=49:=by unfold Bb;rcases G with rfl|rfl|rfl|rfl<;>simp
   rw [Cp _ _ _ Ab,Cp _ _ _ Ab];cases b<;>simp [Ec]
  | call G hn hl hv=>
   rename_i k s l;rw [Mg q G hv];funext r;have Y:(if q=true then k else Bb k)=50\/(if q=true then k else Bb k)=51:=by unfold Bb;cases q<;>rcases G with rfl|rfl<;>simp
   rw [ET _ _ _ Y,ET _ _ _ G];simp only [ZU];generalize (Cf ps s).getD 0=i;cases q
   . simp only [D7,jv,if_false];have e2:(b != decide (Bb k=51))=((!b) != decide (k=51)):=by
      rw [dC];rcases G with rfl|rfl<;>cases b<;>rfl
     rw [e2]
   . simp only [if_true] at O ⊢;rw [dC];have e2:((D7 true ps).getD i ⟨[],[],.mk 0 0 [] []⟩).params=(ps.getD i ⟨[],[],.mk 0 0 [] []⟩).params:=by
      simp only [D7,if_true,iK,jl];cases ps[i]? <;> rfl
     have e3:∀c,AH (Ax (D7 true ps) d) c ((D7 true ps).getD i ⟨[],[],.mk 0 0 [] []⟩).body=AH (Ax ps d) (!c) (ps.getD i ⟨[],[],.mk 0 0 [] []⟩).body:=λc=>by
      rcases i7 i ps.length with U|U
      . have h1:((D7 true ps).getD i ⟨[],[],.mk 0 0 [] []⟩).body=(ps.getD i ⟨[],[],.mk 0 0 [] []⟩).body.inv true:=by
         simp only [D7,if_true,iK,jl,iE U];rfl
        rw [h1];refine O (V _ ?_) c;simp only [iK,iE U,kY];exact iS U
      . have h1:(ps.getD i ⟨[],[],.mk 0 0 [] []⟩).body = .mk 0 0 [] []:=by simp [iK,iR U]
        have h2:((D7 true ps).getD i ⟨[],[],.mk 0 0 [] []⟩).body = .mk 0 0 [] []:=by simp [D7,iK,iR U]
        rw [h1,h2,Ng _ _ rfl,Ng _ _ rfl]
     rw [e2,e3]
  | branch G M N X hu=>
   rename_i k x y z u;rw [Je q G M N X hu];funext r;unfold Ax;have f1:∀p:Bool,AH (Ax (D7 q ps) d) b (if p=true then y.inv q else z.inv q)=AH (Ax ps d) (!b) (if p=true then y else z):=λp=>by
    cases p
    . exact O X b
    . exact O N b
   rcases G with rfl|rfl
   . cases b<;>simp [Bu,f1]
   . cases b<;>simp [Bu,O N,O X]
  | local_ hn M N X=>
   rename_i s x y z;rw [KI q M N X];funext r;unfold Ax;cases b<;>simp [Bu,O N]
  | lstack hn M=>
   rename_i s x;rw [Jf q M];funext r;unfold Ax;simp [Bu,O M]
def VN (q:Bool) {ps:List PD} (G:∀p∈ps,p.body.isBlock=true) (d:Nat) (b:Bool) (h:t.isBlock=true):AH (Ax (D7 q ps) d) b (t.inv q)=AH (Ax ps d) (!b) t:=
 Nf (Um q G d) h b
section
variable {at_:lB->Option (List Int)} {f:FuncId} {fi:lV} {I:wD->Prop}
def PV (Y:B0 prog f=true) (Z:Li at_ f fi I) (t:Nd) (hw:t.wf) (U:t.isExpr=true) (S:nP) (a:oA) (c:Nat) (w:wD) (h:t.sits S w a) (G:Keep I w) :
 Calls prog 221 #[t.val a c,.func (.func f) fi.toArray #[]] w (eL (AW at_ t) w):=by
 have N:=FE (· < w.heap.size) t hw;unfold Ed at N;rw [U] at N;have HE:=iF N;have M:=QE Y Z (t.size+1) t Ab U;unfold cL at M;have M:=iF M;have h:=Cd _ _ h;have X:=Ne w;generalize AW at_ t=r at *;refine Ad func221 ntmps221 rfl rfl (cS (eB [_,_,_,_] ?_));intro b1 w2 V x5 _ _;revert G h X;refine eE x5 ?_;intro G h X;refine eK ?_;refine C1 (JN Ac rfl rfl) (kC (HE.out _ _ _ Ae) ?_);rintro _ w9 ⟨⟨⟩,x8⟩;revert V G h X;refine eE x8 ?_;intro V G h X;refine kC (M.out _ _ _ _ Ae Ae) ?_;rintro _ aa ⟨⟨⟩,O⟩;have X:=X.ext O;refine kT ?_;exact ⟨rfl,X⟩
def ZV (M:B0 prog f=true) (N:Li at_ f fi I) (t:Nd) (O:t.wf) (U:t.isExpr=true) (S:nP) (a:oA) (c:Nat) (w:wD) (h:t.sits S w a) (G:Keep I w) :
 Calls prog 219 #[t.val a c,.func (.func f) fi.toArray #[]] w λe w'=>e = .returned (.tuple #[.bool (decide ((AW at_ t).1≠0)),.int .i64 (AW at_ t).2])/\Ext w w':=by
 have V:=iF (PV M N t O U);have h:=Cd _ _ h;have X:=Ne w;generalize AW at_ t=r at *;refine Ad func219 ntmps219 rfl rfl (cS (eB [_,_,_,_] ?_));intro b1 w2 h4 Y _ _;revert G h X;refine eE Y ?_;intro G h X;refine kC (V.out _ _ _ _ Ae Ae) ?_;rintro _ w9 ⟨⟨⟩,Z⟩;have X:=X.ext Z;refine kT ?_;exact ⟨rfl,X⟩
def Ks (hf:B0 prog f=true) (HL:Li at_ f fi I) (t:Nd) (hw:t.wf) (U:t.isPlace=true) (S:Nat->Prop) (a:Option Addr) (c:Nat) (w:World) (M:t.sits S w a) (V:Keep I w) :
 Calls prog 223 #[t.val a c,.func (.func f) fi.toArray #[]] w (eL (Bf at_ t) w):=by
 have hE:=Gt (· < w.heap.size) t hw
 unfold Ed at hE
 rw [U] at hE;have HE:=iF hE;replace M:=Cd _ _ M;have X:=Ne w;have aa:=EU U
 have Y:t.kind=2\/t.kind=3:=by
  simp only [mX,iJ,jI,beq_iff_eq] at U
  exact U.1
 have ab:=Mo aa
 cases ab with
 | ref h1 Z=>
  rename_i k s
  have ac:k=2:=by simp only [m7] at Y;omega
  subst ac;have e:Bf at_ (.mk 2 0 s [])=(0,0):=rfl;rw [e]
  change Calls prog 223 #[.agg #[.int .u8 2,.int .i64 0,str s,.slice a 0 c],.func (.func f) fi.toArray #[]] w _
  refine Ad func223 ntmps223 rfl rfl ?_
  refine cS (eB [_,_,_,_] ?_);intro b1 w2 h4 x5 _ _;revert X M;refine eE x5 ?_;intro X M;refine C1 Pa (C1 Pa (cT (Aj (cS (C1 Mv (C1 (JN Ac rfl rfl) (cT (Ba rfl (Ao (Ai (Aj (cS (A3 [_,_,_,_] Ac rfl rfl rfl h4 rfl rfl rfl (cC rfl (HE.out _ _ _ Ae) ?_))))))))))))));rintro _ w9 ⟨⟨⟩,x8⟩;revert h4 X;refine eE x8 ?_;intro h4 X;refine C1 Pt (cT (Ba rfl (Ao (Ai (Aj (cS (C1 Pg (C1 (Pl h4) (C1 V1 (cT (WB (cS (C1 Pa (C1 Pa (cT (AR (As (Bc rfl rfl rfl ?_))))))))))))))))))
  exact ⟨rfl,X⟩
 | item h1 Z=>
  rename_i s x
  have e:Bf at_ (.mk 3 0 s [x])=AW at_ x:=rfl;rw [e];have HV:=QE hf HL (x.size+1) x Ab Z
  unfold cL at HV
  replace HV:=iF HV;obtain ⟨kb,ko,xa,xc,rfl,-,N,h⟩:=WU M;replace h:=Cd _ _ h
  generalize AW at_ x=r at *
  change Calls prog 223 #[.agg #[.int .u8 3,.int .i64 0,str s,.slice (some ⟨kb,ko,none⟩) 1 c],.func (.func f) fi.toArray #[]] w _
  refine Ad func223 ntmps223 rfl rfl ?_
  refine cS (eB [_,_,_,_] ?_);intro ag ah G ad _ _;revert V X M N h;refine eE ad ?_;intro V X M N h;refine C1 Pa (C1 Pa (cT (Aj (cS (C1 Mv (C1 (JN Ac rfl rfl) (cT (Ba rfl (Ao (Ai (Aj (cS (A3 [_,_,_,_] Ac rfl rfl rfl G rfl rfl rfl (cC rfl (HE.out _ _ _ Ae) ?_))))))))))))));rintro _ ai ⟨⟨⟩,ae⟩;revert G V X N h;refine eE ae ?_;intro G V X N h;refine C1 Pt (cT (Ba rfl (Ao (Ai (Aj (cS (C1 Pg (C1 (Pl G) (C1 V1 (cT (LT (Ao (Ai (cS (C1 Pf (C1 (Pl G) (C1 Pi (BU [_,_,_,_] Ac rfl rfl rfl N rfl rfl rfl (C1 Mv (cC rfl (HV.out _ _ _ _ Ae Ae) ?_))))))))))))))))))));rintro _ af ⟨⟨⟩,O⟩;replace X:=X.ext O;refine C1 Px (C1 Px (C1 Pa (C1 Pa (cT (AR (Bc rfl rfl rfl ?_))))))
  exact ⟨rfl,X⟩
 | num=>simp only [m7] at Y;omega
 | un h1 Z=>simp only [m7] at Y;omega
 | bin h1 Z h3=>simp only [m7] at Y;omega
end
def XH (k x y:Int) (M:40<=k/\k<=42) (w:wD):Calls prog 226 #[.int .u8 k,.int .i64 x,.int .i64 y] w λe w'=>e = .returned (.tuple #[.int .i64 (LN k x y),.int .i64 0])/\w=w':=by
 refine Ad func226 ntmps226 rfl rfl ?_
 focus
  refine eK ?_;refine Az rfl (λh=>?_) (λh=>?_);refine eK ?_;refine C1 (JP rfl rfl) (kT ?_);rotate_left;refine eK ?_;refine Az rfl (λG=>?_) (λG=>?_);refine eK ?_;refine C1 (Ql rfl rfl) (kT ?_);rotate_left;refine eK ?_;refine C1 (TU rfl rfl) (kT ?_);rotate_left
 all_goals (refine ⟨?_,rfl⟩;unfold LN)
 . rw [AG Ae]
 . rw [At Ab,AG Ae]
 . rw [At Ab,At Ab]
section
variable {ρ':Nat->Rl} {K:List (Int×Int)} {st':Stp}
def Fd (G:st.WF K m) (M:m<=1000000):Li st.look 224 [pt sb] (λw=>StoreAt ρ κ w sb st):=λs w N=>RG G M s w N.h
def EV (h:StoreAt ρ κ w sb st):Keep (λw=>StoreAt ρ κ w sb st) w:=⟨h,λ_ _ h x=>h.ext x⟩
def IC (G:st.WF K m) {x:Nd} (h:x.isPlace=true) (M:x.bad st.cur.vars=0):∃i c,BR x.name st.cur.vars=some i/\st.cur.cells[i]? = some c/\st.cellD x.name=c/\st.look x.name=some (st.items c)/\c<st.heap.length/\(∃y,K[c]? = some y/\(y.1=1\/y.1=2)):=by
 obtain ⟨k,n,s,l⟩:=x;have N:k=2\/k=3:=by
  simp only [mX,m7,iJ,jI,beq_iff_eq] at h;exact h.1
 have O:=(Ko M).1;have e:CI k=1\/CI k=2:=by unfold CI;rcases N with rfl|rfl<;>decide
 obtain ⟨i,c,y,U,V,X,Y,Z,h7,h8,-⟩:=G.use (O Ab);exact ⟨i,c,U,V,X,Y,Z,y,h7,Ab⟩
def Kt (N:ρ (κ c) = .cell c) (V:Blk w (κ c) [.slice M n i]) (O:OwnR ρ (.items c) w (.slice M n i) xs) (X:0<n):∃g,M=some ⟨g,0,none⟩/\PlaceAt ρ κ w c g n i xs:=by
 rcases O.1.open with ⟨h,-⟩|⟨g',U,zs,h,-⟩
 . simp only [jm] at h;omega
 simp only [jm] at h;obtain ⟨rfl,-,-⟩:=h;exact ⟨g',rfl,N,O.2 g' rfl,V,O.1⟩
def ZW (hw:st.WF K m) (hm:m<=1000000) (hk:40<=k/\k<=42) {x:Nd} (ab:x.isPlace=true) (aj:t.isExpr=true) (ak:x.wf) (al:t.wf) (am:x.bad st.cur.vars=0) (a:Option Addr) (c0:Nat) (w:World) (hs:rowSits S w [x,t] a) (h:StoreAt ρ κ w sb st) :
 Calls prog 217 #[pt sb,.agg #[.int .u8 k,.int .i64 0,str [],.slice a 2 c0]] w (StR ρ sb (st.exec k [] [x,t]).2 (st.exec k [] [x,t]).1 w):=by
 obtain ⟨i,c,hi,hc,Z,ac,an,-⟩:=IC hw ab am
 have e:st.exec k [] [x,t]=if (Bf st.look x).2≠0 then ((Bf st.look x).2,st) else if (AW st.look t).2≠0 then ((AW st.look t).2,st) else if (Bf st.look x).1<0\/((st.items c).length:Int)<=(Bf st.look x).1 then (12,st) else (0,st.put c (Bf st.look x).1.toNat (LN k ((st.items c).getD (Bf st.look x).1.toNat 0) (AW st.look t).1)):=by
  unfold Stp.exec
  simp only [mj,List.getD_cons_succ,At (show ¬k=43 by omega),AG hk,Z]
 rw [e];have U:=EV h;have HX:=iF (λxa xc w1 h1 h2=>Ks AU (Fd (sb:=sb) (ρ:=ρ) (κ:=κ) hw hm) x ak ab (· < w.heap.size) xa xc w1 h1 h2);have HY:=iF (λya yc w1 h1 h2=>PV AU (Fd (sb:=sb) (ρ:=ρ) (κ:=κ) hw hm) t al aj (· < w.heap.size) ya yc w1 h1 h2);have HC:=iF (λw1 h=>M8 (ρ:=ρ) (κ:=κ) (sb:=sb) hw hm x.name hi w1 h);rw [Z] at HC;obtain ⟨kb,ko,xa,xc,ya,yc,rfl,-,G,hx,N,hy⟩:=cK hs;replace hx:=Cd _ _ hx;replace hy:=Cd _ _ hy;obtain ⟨ao,vi,M,ad⟩:=h.cells _ _ (ES an);obtain ⟨ai,ci,rfl⟩:=ad.1.shape;have a6:=hw.look_le ac
 have ap:=λhn=>Kt ao M ad hn
 have X:=Ne w;obtain ⟨xk,xn,xs,xl⟩:=x;obtain ⟨yk,yn,ys,yl⟩:=t;simp only [mZ] at HC hi Z ac;replace G:Row w ⟨kb,ko+0*4,none⟩ [.int .u8 xk,.int .i64 xn,str xs,.slice xa xl.length xc]:=G;replace N:Row w ⟨kb,ko+1*4,none⟩ [.int .u8 yk,.int .i64 yn,str ys,.slice ya yl.length yc]:=N
 generalize hA:Bf st.look (.mk xk xn xs xl)=A at *
 generalize hB:AW st.look (.mk yk yn ys yl)=B at *
 generalize hn:(st.items c).length=n at *
 refine Ad func217 ntmps217 rfl rfl ?_
 focus
  refine cS (eB [_,_,_,_] ?_);intro b1 w2 V x5 _ _;revert U X hx hy G N M;refine eE x5 ?_;intro U X hx hy G N M;refine C1 Pa (cN (C1 Pf (C1 (Pl V) (C1 Pi (BU [_,_,_,_] Ac rfl rfl rfl G rfl rfl rfl (C1 Mv (C1 (EH rfl rfl) (cC rfl (HX.out _ _ _ Ae Ae) ?_))))))));rintro _ w9 ⟨⟨⟩,x8⟩;have a7:=x8.size;revert V U X hx hy G N M;refine eE x8 ?_;intro V U X hx hy G N M;refine C1 Mv (C1 Px (C1 Px (C1 Pa (C1 Pa (cT (Aj (cS (C1 Mv (C1 V2 (cT (BT rfl (λaq=>?_) (λaq=>?_))))))))))));refine cS (C1 Mv (C1 Pa (cT (AR (As (AT rfl rfl ?_))))));rotate_left;refine Ao (Ai (cS (C1 Pa (cT (Aj (cS (C1 Pg (C1 (Pl V) (cT (Au (cS (C1 V1 (C1 Pa (cT (DA (Aj ?_))))))))))))))));rotate_left
 . rw [AG Ae]
   exact StR.same U.h X
 rw [At (λh=>h Ae)];refine DE (ι:=Unit) (λ_=>[(0,pt sb),(3,pt b1),(5,.int .i64 A.1),(6,.int .i64 A.2),(7,.int .i64 0),(40,.bool true)]) (λ_ w'=>w'=w9) ?_ ?_
 . focus
    refine cS (C1 V1 (C1 Pa (cT (Az rfl (λar=>?_) (λar=>?_)))));refine Ao ?_;rotate_left;refine cS (C1 V1 (C1 Pa (cT (Az rfl (λau=>?_) (λau=>?_)))));refine Ao ?_;rotate_left;refine Al (C1 V1 (C1 Pa (Ak ?_)));rotate_left
   all_goals exact BQ () (An rfl (An rfl (An rfl (An rfl (An rfl (B4 rfl (congrArg Value.bool (decide_eq_true Ab)) BL)))))) rfl
 rintro-u1 hu;subst hu
 focus
  refine BP rfl (Al (C1 Pf (C1 (Pl V) (C1 Pi (C1 (YZ N) (C1 Mv (C1 (EH rfl rfl) (cC rfl (HY.out _ _ _ Ae Ae) ?_))))))));rintro _ a8 ⟨⟨⟩,av⟩;revert V U X G M;refine eE av ?_;intro V U X G M;refine C1 Mv (C1 Px (C1 Px (C1 Pa (C1 Pa (Ak (Ah (Ai (Aj (cS (C1 Mv (C1 V2 (cT (BT rfl (λaw=>?_) (λaw=>?_))))))))))))));refine cS (C1 Mv (C1 Pa (cT (AR (As (AT rfl rfl ?_))))));rotate_left;refine Ao (Ai (cS (C1 Mv (C1 Pf (C1 (Pl V) (C1 Pi (C1 Pf (C1 (Pw G) (cC rfl (HC.out _ (Keep.h Ae)) ?_)))))))));rintro _ ae ⟨⟨⟩,af⟩;have a9:=af.size;revert V U X M;refine eE af ?_;intro V U X M;refine C1 Pn (C1 Pg (C1 (Pl M) (C1 Pa (cT (Aj ?_)))));rotate_left
 . rw [AG Ae]
   exact StR.same U.h X
 rw [At (λh=>h Ae)]
 by_cases O:A.1<0\/(n:Int)<=A.1
 . rw [AG O]
   focus
    refine cS (C1 Mv (C1 V3 (C1 Mv (B8 rfl rfl rfl (λax=>?_) (λax=>?_)))));refine FR (FR (FR (FR (C1 TR (cT (BP rfl (cS (C1 Pa (cT (AR (As (AT rfl rfl ?_))))))))))));rotate_left;refine FQ (C1 Mv (FQ (C1 Mv (FQ (C1 Pz (FQ (C1 V6 (C1 Ss (cT (TS (cS (C1 Pa (cT (AR (As (AT rfl rfl ?_))))))))))))))));rotate_left
   . exact StR.same U.h X
   . exact StR.same U.h X
 rw [At O];obtain ⟨g,rfl,hp⟩:=ap Ab;replace hp:=hp.ext X;have ay:=hp.row (i:=A.1.toNat) Ab;have ho:=hp.ho;have F:=mI (· = g) ae;have Hp:=iF hp;have HI:=iF U.h;have az:=iF X
 generalize (st.items c).getD A.1.toNat 0=v0 at *
 refine cS (C1 Mv (C1 V3 (C1 Mv (EG (C1 Mv (EG (C1 Mv (EG (C1 Pz (EG (C1 V6 (C1 N2 (cT (DA (Ao (Ai (cS (C1 Mv (C1 Mv (C1 Pi (C1 Pa (cT (Aj (cS (C1 Pg (C1 (Pl V) (cT (Au (Aj ?_)))))))))))))))))))))))))))))
 refine DE (ι:=Unit) (λ_=>[(3,pt b1),(7,.int .i64 B.1),(9,.pointer (some ⟨g,0+A.1.toNat*1,none⟩)),(80,.bool true)]) (λ_ w'=>w'=ae) ?_ ?_
 . focus
    refine cS (C1 V1 (C1 Pa (cT (Az rfl (λa0=>?_) (λa0=>?_)))));refine Ao ?_;rotate_left;refine cS (C1 V1 (C1 Pa (cT (Az rfl (λa1=>?_) (λa1=>?_)))));refine Ao ?_;rotate_left;refine Al (C1 V1 (C1 Pa (Ak ?_)));rotate_left
   all_goals exact BQ () (An rfl (An rfl (An rfl (B4 rfl (congrArg Value.bool (decide_eq_true Ab)) BL)))) rfl
 rintro-u2 hu;subst hu
 have a2:A.1.toNat<(st.items c).length:=by omega
 refine BP rfl (Aj (Aq (λwz=>Ext u2 wz) 11 (.pure 0 (.pure 1 (.pure 2 (.pure 3 (.pure 4 (.pure 5 (.fork 6 (.pure 7 (.pure 8 (.pure 9 (.pure 10 .tail)))) .none))))))) mixed AU (Aa (Af (Aa Ag))) ?_));intro a3 ag _;have Y:(λwz=>Ext u2 wz) a3:=ag;simp only at Y;have ah:=V;have aa:=ay;revert ho F;refine eE ag ?_;intro ho F;refine ⟨Y,(Tq rfl Pg (Tq rfl (Db ah) (Tq rfl Mv (Tq rfl Pn (Tq rfl (Ap Ac rfl rfl rfl (λwz hz=>mO (mJ aa hz) rfl)) (Tq rfl Mv (AC rfl (AM AU rfl (XH _ _ _ hk _) (λ_ _ h=>⟨_,h.1⟩)) rfl ?_ aFh Ay)))))))⟩;rintro _ ba ⟨⟨⟩,rfl⟩;refine ⟨Y,(Tq rfl Mv (Tq rfl Px (Tq rfl Px (Tq rfl Pa (Ar rfl (C1 Pa (cT (Aj (cS (C1 Mv (C1 V1 (cT (WB (Al (C1 Mv (C1 Mv (C1 Pn (A7 (Co Ac rfl rfl rfl Ae a2) (BJ ?_)))))))))))))))))))⟩;rintro _ a5 ⟨bb,a4,bc⟩;replace F:=F.fr a4 Ab;refine cN (C1 Mv (C1 Pa (cT (AR (AJ (As (AT rfl rfl ?_)))))))
 exact ⟨ρ,κ,rfl,Ro.refl _ _,HI.out.putI Hp.out.hrc Hp.out.hrg Hp.out.hb F Ae,(mG az.out).fr F (λk hk=>iG (by rw [show k=g from hk,Hp.out.hrg];trivial))⟩
def ZX (hw:st.WF K m) (hm:m<=1000000) {x:Nd} (a0:x.isPlace=true) (a1:t.isPlace=true) (bk:x.wf) (bl:t.wf) (bm:x.bad st.cur.vars=0) (bn:t.bad st.cur.vars=0) (a:Option Addr) (c0:Nat) (w:World) (hs:rowSits S w [x,t] a) (h:StoreAt ρ κ w sb st) :
 Calls prog 217 #[pt sb,.agg #[.int .u8 43,.int .i64 0,str [],.slice a 2 c0]] w (StR ρ sb (st.exec 43 [] [x,t]).2 (st.exec 43 [] [x,t]).1 w):=by
 obtain ⟨i,c,hi,hc,av,a2,a3,-⟩:=IC hw a0 bm;obtain ⟨i',V,a4,ca,al,ar,a5,-⟩:=IC hw a1 bn
 have e:st.exec 43 [] [x,t]=if (Bf st.look x).2≠0 then ((Bf st.look x).2,st) else if (Bf st.look t).2≠0 then ((Bf st.look t).2,st) else if (Bf st.look x).1<0\/((st.items c).length:Int)<=(Bf st.look x).1 then (12,st) else if (Bf st.look t).1<0\/((st.items V).length:Int)<=(Bf st.look t).1 then (12,st)
  else (0,(st.put c (Bf st.look x).1.toNat ((st.items V).getD (Bf st.look t).1.toNat 0)).put V (Bf st.look t).1.toNat ((st.items c).getD (Bf st.look x).1.toNat 0)):=by
  unfold Stp.exec
  simp only [mj,List.getD_cons_succ,if_true,At (show ¬(40<=(43:Int)/\(43:Int)<=42) by decide),av,al]
 rw [e];have hI:=EV h;have HX:=iF (λxa xc w1 h1 h2=>Ks AU (Fd (sb:=sb) (ρ:=ρ) (κ:=κ) hw hm) x bk a0 (· < w.heap.size) xa xc w1 h1 h2);have HY:=iF (λya yc w1 h1 h2=>Ks AU (Fd (sb:=sb) (ρ:=ρ) (κ:=κ) hw hm) t bl a1 (· < w.heap.size) ya yc w1 h1 h2);have HC:=iF (λw1 h=>M8 (ρ:=ρ) (κ:=κ) (sb:=sb) hw hm x.name hi w1 h);have HD:=iF (λw1 h=>M8 (ρ:=ρ) (κ:=κ) (sb:=sb) hw hm t.name a4 w1 h);rw [av] at HC;rw [al] at HD;obtain ⟨kb,ko,xa,xc,ya,yc,rfl,-,N,hx,O,hy⟩:=cK hs;replace hx:=Cd _ _ hx;replace hy:=Cd _ _ hy;obtain ⟨ad,vi,G,a6⟩:=h.cells _ _ (ES a3);obtain ⟨ai,ci,rfl⟩:=a6.1.shape;obtain ⟨bo,vj,M,a7⟩:=h.cells _ _ (ES a5);obtain ⟨aj,cj,rfl⟩:=a7.1.shape;have cb:=hw.look_le a2;have b3:=hw.look_le ar
 have bp:=λhn=>Kt ad G a6 hn
 have bq:=λhn=>Kt bo M a7 hn
 have X:=Ne w;obtain ⟨xk,xn,xs,xl⟩:=x;obtain ⟨yk,yn,ys,yl⟩:=t;simp only [mZ] at HC HD hi av a2 a4 al ar;replace N:Row w ⟨kb,ko+0*4,none⟩ [.int .u8 xk,.int .i64 xn,str xs,.slice xa xl.length xc]:=N;replace O:Row w ⟨kb,ko+1*4,none⟩ [.int .u8 yk,.int .i64 yn,str ys,.slice ya yl.length yc]:=O
 generalize hA:Bf st.look (.mk xk xn xs xl)=A at *
 generalize hB:Bf st.look (.mk yk yn ys yl)=B at *
 generalize hn:(st.items c).length=n at *
 generalize cc:(st.items V).length=n' at *
 refine Ad func217 ntmps217 rfl rfl ?_
 focus
  refine cS (eB [_,_,_,_] ?_);intro b1 w2 h4 x5 _ _;revert hI X hx hy N O G M;refine eE x5 ?_;intro hI X hx hy N O G M;refine C1 Pa (cN (C1 Pf (C1 (Pl h4) (C1 Pi (BU [_,_,_,_] Ac rfl rfl rfl N rfl rfl rfl (C1 Mv (C1 (EH rfl rfl) (cC rfl (HX.out _ _ _ Ae Ae) ?_))))))));rintro _ w9 ⟨⟨⟩,x8⟩;revert h4 hI X hx hy N O G M;refine eE x8 ?_;intro h4 hI X hx hy N O G M;refine C1 Mv (C1 Px (C1 Px (C1 Pa (C1 Pa (cT (Aj (cS (C1 Mv (C1 V2 (cT (BT rfl (λbr=>?_) (λbr=>?_))))))))))));refine cS (C1 Mv (C1 Pa (cT (AR (As (AT rfl rfl ?_))))));rotate_left;refine Ao (Ai (cS (C1 Pa (cT (Aj (cS (C1 Pg (C1 (Pl h4) (cT (Au (cS (C1 V1 (C1 Pa (cT (WB (Al (C1 Pf (C1 (Pl h4) (C1 Pi (C1 (YZ O) (C1 Mv (C1 (EH rfl rfl) (cC rfl (HY.out _ _ _ Ae Ae) ?_)))))))))))))))))))))));rintro _ cd ⟨⟨⟩,bs⟩;revert h4 hI X hx hy N O G M;refine eE bs ?_;intro h4 hI X hx hy N O G M;refine C1 Mv (C1 Px (C1 Px (C1 Pa (C1 Pa (Ak (Ah (Ai (Aj (cS (C1 Mv (C1 V2 (cT (BT rfl (λbt=>?_) (λbt=>?_))))))))))))));refine cS (C1 Mv (C1 Pa (cT (AR (As (AT rfl rfl ?_))))));rotate_left;refine Ao (Ai (cS (C1 Mv (C1 Pf (C1 (Pl h4) (C1 Pi (C1 Pf (C1 (Pw N) ?_))))))))
  refine cC rfl (HC.out _ (Keep.h Ae)) ?_;rintro _ ce ⟨⟨⟩,bu⟩;revert h4 hI X hx hy N O G M;refine eE bu ?_;intro h4 hI X hx hy N O G M;refine C1 Pn (C1 Pg (C1 (Pl G) (C1 Pa (cT (Aj ?_)))));rotate_left
 . rw [AG Ae]
   exact StR.same hI.h X
 . rw [At (λh=>h Ae),AG Ae]
   exact StR.same hI.h X
 rw [At (λh=>h Ae),At (λh=>h Ae)]
 by_cases ag:A.1<0\/(n:Int)<=A.1
 . rw [AG ag]
   focus
    refine cS (C1 Mv (C1 V3 (C1 Mv (B8 rfl rfl rfl (λbv=>?_) (λbv=>?_)))));refine FR (FR (FR (FR (C1 TR (cT (BP rfl (cS (C1 Pa (cT (AR (As (AT rfl rfl ?_))))))))))));rotate_left;refine FQ (C1 Mv (FQ (C1 Mv (FQ (C1 Pz (FQ (C1 V6 (C1 Ss (cT (TS (cS (C1 Pa (cT (AR (As (AT rfl rfl ?_))))))))))))))));rotate_left
   . exact StR.same hI.h X
   . exact StR.same hI.h X
 rw [At ag];obtain ⟨g,rfl,hp⟩:=bp Ab
 refine cS (C1 Mv (C1 V3 (C1 Mv (EG (C1 Mv (EG (C1 Mv (EG (C1 Pz (EG (C1 V6 (C1 N2 (cT (DA (Ao (Ai (cS (C1 Mv (C1 Mv (C1 Pi (C1 Pa (cT (Aj (cS (C1 Pg (C1 (Pl h4) (cT (Au (Aj (cS (C1 V1 (C1 Pa (cT (LT (cS (C1 V1 (C1 Pa (cT (LT (Al (C1 V1 (C1 Pa (cT (LT (cS (C1 V1 (C1 Pa (cT (WB (cS (C1 Mv (C1 Pf (C1 (Pl h4) (C1 Pi (C1 Pf (C1 (Pw O) (cC rfl (HD.out _ (Keep.h Ae)) ?_)))))))))))))))))))))))))))))))))))))))))))))))))))))))));rintro _ Y ⟨⟨⟩,bw⟩;revert h4 hI X hx hy N O M G;refine eE bw ?_;intro h4 hI X hx hy N O M G;refine C1 Pn (C1 Pg (C1 (Pl M) (C1 Pa (cT (Aj ?_)))))
 by_cases aa:B.1<0\/(n':Int)<=B.1
 . rw [AG aa]
   focus
    refine cS (C1 Mv (C1 V3 (C1 Mv (B8 rfl rfl rfl (λbx=>?_) (λbx=>?_)))));refine FR (FR (FR (FR (C1 TR (cT (BP rfl (cS (C1 Pa (cT (AR (As (AJ (As (AT rfl rfl ?_))))))))))))));rotate_left;refine FQ (C1 Mv (FQ (C1 Mv (FQ (C1 Pz (FQ (C1 V6 (C1 Ss (cT (TS (cS (C1 Pa (cT (AR (As (AJ (As (AT rfl rfl ?_))))))))))))))))));rotate_left
   . exact StR.same hI.h X
   . exact StR.same hI.h X
 rw [At aa];obtain ⟨g',rfl,hq⟩:=bq Ab
 have aw:A.1.toNat<(st.items c).length:=by omega
 have ax:B.1.toNat<(st.items V).length:=by omega
 have ah:=(hp.ext X).row aw;have ab:=(hq.ext X).row ax;have a8:=iF X;have HI:=iF hI.h
 by_cases ao:V=c
 . subst ao
   have bz:g'=g:=by
    have h1:=(hp.hb.row.at0 rfl).symm.trans (hq.hb.row.at0 rfl);simp only [iL,jm,kN,and_true] at h1
    exact h1.1.symm
   subst bz
   have e:(st.put V A.1.toNat ((st.items V).getD B.1.toNat 0)).put V B.1.toNat ((st.items V).getD A.1.toNat 0)=st.all V (((st.items V).set A.1.toNat ((st.items V).getD B.1.toNat 0)).set B.1.toNat ((st.items V).getD A.1.toNat 0)):=by
    unfold Stp.put
    rw [CQ,AG ⟨rfl,a3⟩]
    unfold Stp.all
    simp
   rw [e]
   have a9:∀v,B.1.toNat<((st.items V).set A.1.toNat v).length:=λv=>by rw [kg];exact ax
   have ho:=(hp.ext X).ho;have Hp:=iF (hp.ext X);have F:=mI (· = g') Y
   generalize (st.items V).getD A.1.toNat 0=v0 at *
   generalize (st.items V).getD B.1.toNat 0=v1 at *
   refine cS (C1 Mv (C1 V3 (C1 Mv (EG (C1 Mv (EG (C1 Mv (EG (C1 Pz (EG (C1 V6 (C1 N2 (cT (DA (Ao (Ai (Aj (E9 (λZ=>Ext Y Z) (λZ=>Fr (λx=>x=g') Y Z) [1,2,11,12,13] [1,2] 11 12 (.free 1 (.free 2 (.pure 0 (.pure 3 (.pure 4 (.pure 5 (.pure 6 (.pure 7 (.pure 8 (.pure 9 (.pure 10 (.put 11 (.tail 12))))))))))))) (λ_ h=>mG h) mixed AU (Aa (Af (Aa Ag))) ?_))))))))))))))))));intro ba ay _;have bb:(λZ=>Ext Y Z) ba:=ay;simp only at bb;have am:(λZ=>Fr (λx=>x=g') Y Z) ba:=mG ay;simp only at am;have ae:=ah;have af:=ab;revert h4 M G ho F ah ab;refine eE ay ?_;intro h4 M G ho F ah ab;refine Bp Ae rfl (Av rfl) rfl (Bp Ae rfl (Av rfl) rfl (Am Ae rfl (Av rfl) rfl (Am Ae rfl (Av rfl) rfl (Am Ae rfl (Av rfl) rfl (Am Ae rfl (AK Ac rfl rfl rfl rfl Ab Ab) rfl (Am Ae rfl (Ap Ac rfl rfl rfl (λZ hz=>mO (mJ af hz) rfl)) rfl (Am Ae rfl (Av rfl) rfl (Am Ae rfl (BH rfl) rfl (Am Ae rfl (Ap Ac rfl rfl rfl (λZ hz=>mO (mJ ae hz) rfl)) rfl ?_)))))))))
   refine Am Ae rfl (BH rfl) rfl (DD rfl (Co Ac rfl rfl rfl Ae aw) (BJ ?_));rintro _ cf ⟨cg,bc,ch⟩;replace am:=am.fr bc Ab;replace F:=F.fr bc Ab;refine ⟨Ae,(DB rfl (C1 Pi (A7 (Co Ac rfl rfl rfl Ae (a9 _)) (BJ ?_))))⟩;rintro _ b4 ⟨b5,bd,b6⟩;replace F:=F.fr bd Ab;refine cN (C1 Pa (cT (AR (AJ (As (AT rfl rfl ?_))))))
   exact ⟨ρ,κ,rfl,Ro.refl _ _,HI.out.putI Hp.out.hrc Hp.out.hrg Hp.out.hb F Ae,(mG a8.out).fr F (λk hk=>iG (by rw [show k=g' from hk,Hp.out.hrg];trivial))⟩
 . have e:(st.put c A.1.toNat ((st.items V).getD B.1.toNat 0)).put V B.1.toNat ((st.items c).getD A.1.toNat 0)=(st.all c ((st.items c).set A.1.toNat ((st.items V).getD B.1.toNat 0))).all V ((st.items V).set B.1.toNat ((st.items c).getD A.1.toNat 0)):=by
    unfold Stp.put
    rw [CQ,At (λh=>ao h.1)]
   rw [e];have be:=hp.ext X;have bf:=hq.ext X;have ak:=hp.hrg;have U:=hq.hrg
   have bg:g'≠g:=λe=>by rw [e,ak] at U;simp at U;exact ao U.symm
   have ho:=be.ho;have ap:=bf.ho;have Hp:=iF be;have Hq:=iF bf;have F:=mI (λk=>k=g\/k=g') Y
   generalize (st.items c).getD A.1.toNat 0=v0 at *
   generalize (st.items V).getD B.1.toNat 0=v1 at *
   refine cS (C1 Mv (C1 V3 (C1 Mv (EG (C1 Mv (EG (C1 Mv (EG (C1 Pz (EG (C1 V6 (C1 N2 (cT (DA (Ao (Ai (Aj (E9 (λZ=>Ext Y Z) (λZ=>Fr (λx=>x=g) Y Z) [1,2,11,12,13] [1,2] 11 12 (.free 1 (.free 2 (.pure 0 (.pure 3 (.pure 4 (.pure 5 (.pure 6 (.pure 7 (.pure 8 (.pure 9 (.pure 10 (.put 11 (.tail 12))))))))))))) (λ_ h=>mG h) mixed AU (Aa (Af (Aa Ag))) ?_))))))))))))))))));intro bh az _;have bi:(λZ=>Ext Y Z) bh:=az;simp only at bi;have an:(λZ=>Fr (λx=>x=g) Y Z) bh:=mG az;simp only at an;have ae:=ah;have af:=ab;revert h4 G M ho ap F ah ab;refine eE az ?_;intro h4 G M ho ap F ah ab;refine Bp Ae rfl (Av rfl) rfl (Bp Ae rfl (Av rfl) rfl (Am Ae rfl (Av rfl) rfl (Am Ae rfl (Av rfl) rfl (Am Ae rfl (Av rfl) rfl (Am Ae rfl (AK Ac rfl rfl rfl rfl Ab Ab) rfl (Am Ae rfl (Ap Ac rfl rfl rfl (λZ hz=>mO (mJ af hz) rfl)) rfl (Am Ae rfl (Av rfl) rfl (Am Ae rfl (BH rfl) rfl (Am Ae rfl (Ap Ac rfl rfl rfl (λZ hz=>mO (mJ ae hz) rfl)) rfl ?_)))))))))
   refine Am Ae rfl (BH rfl) rfl (DD rfl (Co Ac rfl rfl rfl Ae aw) (BJ ?_));rintro _ ck ⟨bj,aq,cl⟩;replace an:=an.fr aq Ab;replace ap:=nx ap aq (λk hk hS=>by (obtain rfl:=iQ (show some g'=some k from hk);exact bg hS));replace F:=F.fr aq Ab;replace ab:=ab.fr aq Ab;refine ⟨Ae,(DB rfl (C1 Pi (A7 (Co Ac rfl rfl rfl Ae ax) (BJ ?_))))⟩;rintro _ b7 ⟨b8,au,b9⟩;replace bj:=nx bj au (λk hk hS=>by (obtain rfl:=iQ (show some g=some k from hk);exact bg hS.symm));replace F:=mL F au (λk hk=>iG (iH hk));refine cN (C1 Pa (cT (AR (AJ (As (AT rfl rfl ?_))))))
   have ad:=Hp.out.hrc;have ac:=Hq.out.hrc
   have b0:=Hp.out.hb.fr F (λe=>by
    rcases e with e|e
    . rw [e,ak] at ad
      cases ad
    . rw [e,U] at ad
      cases ad)
   have b2:=Hq.out.hb.fr F (λe=>by
    rcases e with e|e
    . rw [e,ak] at ac
      cases ac
    . rw [e,U] at ac
      cases ac)
   exact ⟨ρ,κ,rfl,Ro.refl _ _,HI.out.set2 (l8 ao) (F.weaken (λk hk=>by rcases hk with rfl|rfl;exact iG (iH ak);exact iH (iH U))) (Ro.refl _ _) (HI.out.fresh.mv F) ⟨ad,_,b0,Ae,λk hk=>by obtain rfl:=iQ (show some g=some k from hk);exact ak⟩ ⟨ac,_,b2,Ae,λk hk=>by obtain rfl:=iQ (show some g'=some k from hk);exact U⟩,
    (mG a8.out).fr F (λk hk=>iG (by rcases hk with rfl|rfl;rw [ak];trivial;rw [U];trivial))⟩
def Un (hw:st.WF K m) (hm:m<=1000000) {s:List UInt8} (hk:(44<=k/\k<=49)) {x:Nd} (ah:x.isPlace=true) (ar:x.wf) (au:x.bad st.cur.vars=0) (av:(k=44\/k=45)->El st.cur.vars s 3=0) (a:Option Addr) (c0:Nat) (w:World) (hs:rowSits S w [x] a) (h:StoreAt ρ κ w sb st) :
 Calls prog 217 #[pt sb,.agg #[.int .u8 k,.int .i64 0,str s,.slice a 1 c0]] w (StR ρ sb (st.exec k s [x]).2 (st.exec k s [x]).1 w):=by
 obtain ⟨i,c,hi,hc,af,aj,aw,yk,ax,ba⟩:=IC hw ah au
 have e:st.exec k s [x]=if (Bf st.look x).2≠0 then ((Bf st.look x).2,st) else if (Bf st.look x).1<0\/((st.items c).length:Int)<=(Bf st.look x).1 then (12,st) else if k=44\/k=45 then st.move k c (Bf st.look x).1.toNat (st.cellD s) else st.transfer k c (Bf st.look x).1.toNat:=by
  unfold Stp.exec
  simp only [mj,At (show ¬k=43 by omega),At (show ¬(40<=k/\k<=42) by omega),af]
  simp
 rw [e];have M:=EV h;have HX:=iF (λxa xc w1 h1 h2=>Ks AU (Fd (sb:=sb) (ρ:=ρ) (κ:=κ) hw hm) x ar ah (· < w.heap.size) xa xc w1 h1 h2);have HC:=iF (λw1 h=>M8 (ρ:=ρ) (κ:=κ) (sb:=sb) hw hm x.name hi w1 h);rw [af] at HC;obtain ⟨kb,ko,xa,xc,rfl,-,N,hx⟩:=WU hs;replace hx:=Cd _ _ hx;obtain ⟨ay,vi,O,ak⟩:=h.cells _ _ (ES aw);obtain ⟨ai,ci,rfl⟩:=ak.1.shape;have bm:=hw.look_le aj
 have az:=λhn=>Kt ay O ak hn
 have X:=Ne w;obtain ⟨xk,xn,xs,xl⟩:=x;simp only [mZ] at HC hi af aj;replace N:Row w ⟨kb,ko+0*4,none⟩ [.int .u8 xk,.int .i64 xn,str xs,.slice xa xl.length xc]:=N
 generalize hA:Bf st.look (.mk xk xn xs xl)=A at *
 generalize hn:(st.items c).length=n at *
 refine Ad func217 ntmps217 rfl rfl ?_
 focus
  refine cS (eB [_,_,_,_] ?_);intro b1 w2 h4 x5 p6 z7;revert M X hx N O;refine eE x5 ?_;intro M X hx N O;refine C1 Pa (cN (C1 Pf (C1 (Pl h4) (C1 Pi (BU [_,_,_,_] Ac rfl rfl rfl N rfl rfl rfl (C1 Mv (C1 (EH rfl rfl) (cC rfl (HX.out _ _ _ Ae Ae) ?_))))))));rintro _ w9 ⟨⟨⟩,x8⟩;have bn:=x8.size;revert h4 M X N O;refine eE x8 ?_;intro h4 M X N O;refine C1 Mv (C1 Px (C1 Px (C1 Pa (C1 Pa (cT (Aj (cS (C1 Mv (C1 V2 (cT (BT rfl (λa0=>?_) (λa0=>?_))))))))))));refine cS (C1 Mv (C1 Pa (cT (AR (As (AT rfl rfl ?_))))));rotate_left;refine Ao (Ai (cS (C1 Pa (cT (Aj (cS (C1 Pg (C1 (Pl h4) (cT (Au (cS (C1 V1 (C1 Pa (cT (DA (Aj (cS (C1 V1 (C1 Pa (cT (DA (cS (C1 V1 (C1 Pa (cT (DA (Al (C1 V1 (C1 Pa (cT (DA (Ao (Ah (Ai (Aj (cS (C1 Mv (C1 V2 (cT (DA (Ao (Ai (cS (C1 Mv (C1 Pf (C1 (Pl h4) (C1 Pi (C1 Pf (C1 (Pw N) (cC rfl (HC.out _ (Keep.h Ae)) ?_))))))))))))))))))))))))))))))))))))))))))))))))));rintro _ ac ⟨⟨⟩,al⟩;have bo:=al.size;revert h4 M X O;refine eE al ?_;intro h4 M X O;refine C1 Pn (C1 Pg (C1 (Pl O) (C1 Pa (cT (Aj ?_)))));rotate_left
 . rw [AG Ae]
   exact StR.same M.h X
 rw [At (λh=>h Ae)]
 by_cases Z:A.1<0\/(n:Int)<=A.1
 . rw [AG Z]
   focus
    refine cS (C1 Mv (C1 V3 (C1 Mv (B8 rfl rfl rfl (λa1=>?_) (λa1=>?_)))));refine FR (FR (FR (FR (C1 TR (cT (BP rfl (cS (C1 Pa (cT (AR (As (AT rfl rfl ?_))))))))))));rotate_left;refine FQ (C1 Mv (FQ (C1 Mv (FQ (C1 Pz (FQ (C1 V6 (C1 Ss (cT (TS (cS (C1 Pa (cT (AR (As (AT rfl rfl ?_))))))))))))))));rotate_left
   . exact StR.same M.h X
   . exact StR.same M.h X
 rw [At Z];obtain ⟨g,rfl,U⟩:=az Ab;replace U:=U.ext X
 have aa:A.1.toNat<(st.items c).length:=by omega
 by_cases ad:k=44\/k=45
 . rw [AG ad];obtain ⟨i2,d,yd,e1,e2,e3,e4,e5,e6,e7,e8⟩:=hw.use (av ad)
   have am:c≠d:=by
    rintro rfl;rw [ax] at e6;obtain rfl:=iQ e6
    omega
   have a2:(st.items d).length<=1000:=by rcases e8 with ⟨h,-⟩|⟨h,-⟩|⟨-,h⟩<;>omega
   have HD:=iF (λw1 h=>M8 (ρ:=ρ) (κ:=κ) (sb:=sb) hw hm s e1 w1 h);rw [e3] at HD ⊢;have HM:=iF (λw1 h U=>dB (ρ:=ρ) (κ:=κ) (sb:=sb) (g:=g) (n:=n) (cap:=ci) hw e5 am a2 aa k ad w1 h U);have F:Fr (λk=>MZ (ρ k)) w _:=mG X
   generalize st.move k c A.1.toNat d=r at *
   focus
    refine cS (C1 Mv (C1 V3 (C1 Mv (EG (C1 Mv (EG (C1 Mv (EG (C1 Pz (EG (C1 V6 (C1 N2 (cT (DA (Ao (Ai (cS (C1 Mv (C1 Mv (C1 Pi (C1 Pa (cT (Aj (cS (C1 Pg (C1 (Pl h4) (cT (Au (Aj (cS (C1 V1 (C1 Pa (cT (DA (cS (C1 V1 (C1 Pa (cT (DA (Al (C1 V1 (C1 Pa (cT (DA (cS (C1 V1 (C1 Pa (cT (DA (Aj (cS (C1 V1 (C1 Pa (cT (Az rfl (λa3=>?_) (λa3=>?_))))))))))))))))))))))))))))))))))))))))))))))))))))))));refine Ao (Ai (YO (Aj (Aq (λwz=>Ext ac wz) 7 (.pure 0 (.pure 1 (.pure 2 (.pure 3 (.pure 4 (.pure 5 (.fork 6 .tail .none))))))) mixed AU (Aa (Af (Aa Ag))) ?_))));intro a4 ag _;have V:(λwz=>Ext ac wz) a4:=ag;simp only at V;have Y:=h4;have bp:=ag.size;revert M U F;refine eE ag ?_;intro M U F;refine ⟨V,(Tq rfl Pg (Tq rfl (Db Y) (Tq rfl Mv (Tq rfl Mv (Tq rfl Pf (Tq rfl (Db Y) (AC rfl (AM AU rfl (HD.out _ (Keep.h Ae)) (λ_ _ h=>⟨_,h.1⟩)) rfl ?_ aFh Ay)))))))⟩;rintro _ bq ⟨⟨⟩,an⟩;have br:=an.size;revert V M U F;refine eE an ?_;intro V M U F;refine ⟨V,(Ar rfl (eQ rfl (HM.out _ (Keep.h Ae) Ae) ?_))⟩;rintro _ bb ⟨a5,a6,⟨⟩,bc,bd,ao⟩
    replace F:=mL F ao (λk hk=>iG hk);refine C1 Pa (cT (AR (AJ (As (AT rfl rfl ?_)))));rotate_left;refine Al (C1 V1 (C1 Pa (cT (TS (Aj (Aq (λwz=>Ext ac wz) 7 (.pure 0 (.pure 1 (.pure 2 (.pure 3 (.pure 4 (.pure 5 (.fork 6 .tail .none))))))) mixed AU (Aa (Af (Aa Ag))) ?_))))));intro ap ab _;have G:(λwz=>Ext ac wz) ap:=ab;simp only at G;have Y:=h4;have be:=ab.size;revert M U F;refine eE ab ?_;intro M U F;refine ⟨G,(Tq rfl Pg (Tq rfl (Db Y) (Tq rfl Mv (Tq rfl Mv (Tq rfl Pf (Tq rfl (Db Y) (AC rfl (AM AU rfl (HD.out _ (Keep.h Ae)) (λ_ _ h=>⟨_,h.1⟩)) rfl ?_ aFh Ay)))))))⟩;rintro _ bf ⟨⟨⟩,ae⟩;have bg:=ae.size;revert G M U F;refine eE ae ?_;intro G M U F;refine ⟨G,(Ar rfl (eQ rfl (HM.out _ (Keep.h Ae) Ae) ?_))⟩;rintro _ bh ⟨a7,a8,⟨⟩,bi,bj,aq⟩;replace F:=mL F aq (λk hk=>iG hk);refine C1 Pa (cT (AR (AJ (As (AT rfl rfl ?_)))));rotate_left
   . exact ⟨_,_,rfl,Ro.low Ae Ab,Ae,F⟩
   . exact ⟨_,_,rfl,Ro.low Ae Ab,Ae,F⟩
 . rw [At ad]
   have HT:∀w1,StoreAt ρ κ w1 sb st->PlaceAt ρ κ w1 c g n ci (st.items c)->Calls prog 228 #[pt sb,.int .u8 k,.pointer (some ⟨g,0+A.1.toNat*1,none⟩)] w1 (StR ρ sb (st.transfer k c A.1.toNat).2 (st.transfer k c A.1.toNat).1 w1):=λw1 h U=>by
    rcases (show k=46\/k=47\/k=48\/k=49 by omega) with rfl|rfl|rfl|rfl
    . exact XD aa w1 h U
    . exact XF aa w1 h U
    . exact XG aa w1 h U
    . exact XE aa w1 h U
   replace HT:=iF HT;have F:Fr (λk=>MZ (ρ k)) w _:=mG X
   generalize st.transfer k c A.1.toNat=r at *
   refine cS (C1 Mv (C1 V3 (C1 Mv (EG (C1 Mv (EG (C1 Mv (EG (C1 Pz (EG (C1 V6 (C1 N2 (cT (DA (Ao (Ai (cS (C1 Mv (C1 Mv (C1 Pi (C1 Pa (cT (Aj (cS (C1 Pg (C1 (Pl h4) (cT (Au (Aj (cS (C1 V1 (C1 Pa (cT (DA (cS (C1 V1 (C1 Pa (cT (DA (Al (C1 V1 (C1 Pa (cT (DA (cS (C1 V1 (C1 Pa (cT (DA (Aj (cS (C1 V1 (C1 Pa (cT (DA (Al (C1 V1 (C1 Pa (cT (DA (Ao (Ah (Ai (cS (C1 Mv (C1 Pg (C1 (Pl h4) (C1 Mv (eQ rfl (HT.out _ (Keep.h Ae) Ae) ?_)))))))))))))))))))))))))))))))))))))))))))))))))))))))))))))))))))));rintro _ bs ⟨bk,bl,⟨⟩,bt,bu,a9⟩;replace F:=mL F a9 (λk hk=>iG hk);refine C1 Pa (cT (AR (AT rfl rfl ?_)))
   exact ⟨_,_,rfl,Ro.low Ae Ab,Ae,F⟩
end
section
variable {ρ':Nat->Rl} {K:List (Int×Int)} {st':Stp}
def Tj (h:40<=k/\k<=49):40<=Bb k/\Bb k<=49:=by
 unfold Bb;rcases (show k=40\/k=41\/k=42\/k=43\/k=44\/k=45\/k=46\/k=47\/k=48\/k=49 by omega) with rfl|rfl|rfl|rfl|rfl|rfl|rfl|rfl|rfl|rfl<;>decide
def VO {n:Int} (G:40<=k/\k<=49) (h:(Nd.mk k n s l).isStmt=true):(Nd.mk (Bb k) n s l).isStmt=true:=by
 unfold Nd.isStmt at h ⊢;rcases (show k=40\/k=41\/k=42\/k=43\/k=44\/k=45\/k=46\/k=47\/k=48\/k=49 by omega) with rfl|rfl|rfl|rfl|rfl|rfl|rfl|rfl|rfl|rfl<;>simpa [Bb] using h
def dD (Y:st.WF K m) (Z:m<=1000000) {n:Int} (hk:40<=k/\k<=49) (aa:(Nd.mk k n s l).isStmt=true) (ab:(Nd.mk k n s l).wf) (hb:(Nd.mk k n s l).bad st.cur.vars=0) (a:oA) (V:Nat) (w:wD) (hs:rowSits S w l a) (h:StoreAt ρ κ w sb st) :
 Calls prog 217 #[pt sb,.agg #[.int .u8 k,.int .i64 n,str s,.slice a l.length V]] w (StR ρ sb (st.exec k s l).2 (st.exec k s l).1 w):=by
 have U:=Ko hb;obtain ⟨-,-,-,-,-,-,M⟩:=ab;cases B3 aa with
 | upd X N hy=>
  obtain ⟨G,O,-⟩:=M;exact ZW Y Z Ab N hy G O (Cn U.2).1 a V w hs h
 | swap N hy=>
  obtain ⟨G,O,-⟩:=M;exact ZX Y Z N hy G O (Cn U.2).1 (Cn (Cn U.2).2).1 a V w hs h
 | stack X hn N=>
  obtain ⟨G,-⟩:=M;exact Un Y Z Ab N G (Cn U.2).1 (λ_=>by
   have:=U.1;have e:CI k=3:=by unfold CI;rcases X with rfl|rfl<;>decide
   rw [e] at this;exact this B9) a V w hs h
 | tape X N=>
  obtain ⟨G,-⟩:=M;exact Un Y Z Ab N G (Cn U.2).1 (λh=>by omega) a V w hs h
 | call X=>omega
 | branch X=>omega
 | local_=>omega
 | lstack=>omega
def fJ (hw:st.WF K m) (hm:m<=1000000) {n:Int} (hk:(40<=k/\k<=49)\/k=56) (aa:(Nd.mk k n s l).isStmt=true) (ab:(Nd.mk k n s l).wf) (hz:(Nd.mk k n s l).size<=1000000) (a:oA) (c0:Nat) (w:wD) (hs:rowSits S w l a) (h:StoreAt ρ κ w sb st) :
 Calls prog 196 #[pt sb,.agg #[.int .u8 k,.int .i64 n,str s,.slice a l.length c0]] w (StR ρ sb (st.run1 k n s l).2 (st.run1 k n s l).1 w):=by
 have Z:=WS (· < w.heap.size) (.mk k n s l) ab;unfold Ed at Z;rw [aa] at Z;have Z:=iF (λw1 hs=>Z a c0 w1 hs);simp only [Nd.val,Nd.sits] at Z;have M:=Ch _ _ hs;have X:=Ne w;have V:=EV h;have ar:=hw.nc;have au:=hw.curm;rcases hk with hk|rfl
 . have e:st.run1 k n s l=if (Nd.mk k n s l).bad st.cur.vars≠0 then ((Nd.mk k n s l).bad st.cur.vars,st) else st.exec k s l:=by unfold Stp.run1;rw [At Ab]
   rw [e];obtain ⟨fb,fo,pre,post,T,vv,vc,O,-,ac,hf,-⟩:=h.open;obtain ⟨av,cv,rfl,N⟩:=G8 (S:=λ_=>True) hf.v.1 (λ_ _=>trivial);have G:=ac.blk;have HC:=iF (λw1 h=>ER fb fo st.calls.length sb Ab w1 h);have HF:=iF (λw1 h1 h2 h3=>ZO st.cur.vars Ab av cv vc (.int .i64 st.cur.locals) fb fo _ (.mk k n s l) (· < w.heap.size) (λ_=>True) a c0 w1 (Nat.lt_succ_self _) Ab h1 h2 h3);simp only [Nd.val,Nd.sits] at HF;have HX:(Nd.mk k n s l).bad st.cur.vars=0 -> ∀w1,rowSits (· < w.heap.size) w1 l a->StoreAt ρ κ w1 sb st->Calls prog 217 #[pt sb,.agg #[.int .u8 k,.int .i64 n,str s,.slice a l.length c0]] w1 (StR ρ sb (st.exec k s l).2 (st.exec k s l).1 w1):=λhb w1 h1 h2=>dD hw hm hk aa ab hb a c0 w1 h1 h2
   have HX:=iF HX;have HB:=iF (λw1=>ZP k hk w1);have F:Fr (λk=>MZ (ρ k)) w w:=mI _ w;generalize (Nd.mk k n s l).bad st.cur.vars=bd at *;generalize st.exec k s l=r at *;generalize st.cur.vars=vs at *;refine Ad func196 ntmps196 rfl rfl ?_
   focus
    refine cS (eB [_,_,_,_] ?_);intro b1 w2 Y x5 p6 z7;revert M X V O F N G;refine eE x5 ?_;intro M X V O F N G;refine eK ?_;refine C1 (A1 Ac rfl rfl) (kC (Z.out _ Ae) ?_);rintro _ w9 ⟨⟨⟩,x8⟩;revert Y M X V O F N G;refine eY x8 ?_;intro aw Y M X V O F N G;refine kC (HB.out _) ?_;rintro _ ad ⟨⟨⟩,ah⟩;revert Y M X V O F N G;refine eY ah ?_;intro ax Y M X V O F N G;refine eK ?_;refine Aq (λwz=>Ext ad wz) 3 (.pure 0 (.pure 2 (.fork 1 .tail .none))) mixed AU (Aa (Aa Ag)) ?_;intro ai ae _;have U:(λwz=>Ext ad wz) ai:=ae;simp only at U;have af:=Y;revert Y M X V O F N G;refine eY ae ?_;intro ay Y M X V O F N G;refine ⟨U,(Tq rfl Mv (Tq rfl (xL [_,_,_,_] (λwz hz=>(mN af hz))) (tC rfl rfl (HC.out _ Ae) ?_)))⟩;rintro _ az ⟨⟨⟩,aj⟩;revert U Y M X V F N G;refine eY aj ?_;intro a0 U Y M X V F N G;refine ⟨U,(Ar rfl (cC rfl (HF.out _ Ae Ae Ae) ?_))⟩;rintro _ a1 ⟨⟨⟩,ak⟩;revert Y M X V F;refine eY ak ?_;intro a2 Y M X V F;refine eK ?_;refine BT rfl (λal=>?_) (λal=>?_);refine kR ?_;rotate_left;refine kQ (HX.out Ae _ Ae (Keep.h Ae)) ?_;rintro _ a3 ⟨ap,aq,⟨⟩,a4,a5,am⟩;have F:=mL F am (λk hk=>iG hk);refine kR ?_;rotate_left
   . rw [AG Ae];exact StR.same V.h X
   . rw [At (λh=>h Ae)];exact ⟨_,_,rfl,Ro.low Ae Ab,Ae,F⟩
 . have e:st.run1 56 n s l=(9,st):=by unfold Stp.run1;rw [AG rfl]
   rw [e];refine Ad func196 ntmps196 rfl rfl (cS (eB [_,_,_,_] ?_));intro a6 a7 ag an _ _;revert h M X;refine eE an ?_;intro h M X;refine eK ?_;refine C1 (A1 Ac rfl rfl) (kC (Z.out _ Ae) ?_);rintro _ a8 ⟨⟨⟩,ao⟩;revert ag h X;refine eE ao ?_;intro ag h X;refine kR ?_;exact StR.same Ae X
def dE (hw:st.WF K m) (hm:m<=1000000) {n:Int} (M:(40<=k/\k<=49)\/k=56) (N:(Nd.mk k n s l).isStmt=true) (X:(Nd.mk k n s l).wf) (hz:(Nd.mk k n s l).size<=1000000) (a:oA) (c0:Nat) (w:wD) (hs:rowSits S w l a) (h:StoreAt ρ κ w sb st) :
 Calls prog 195 #[pt sb,.agg #[.int .u8 k,.int .i64 n,str s,.slice a l.length c0]] w (StR ρ sb (st.run1 (Bb k) n s l).2 (st.run1 (Bb k) n s l).1 w):=by
 have G:=Ch _ _ hs;have HI:=iF (VK k Ab);have Y:(40<=Bb k/\Bb k<=49)\/Bb k=56:=by
  rcases M with h|rfl
  . exact iG (Tj h)
  . exact iH rfl
 have O:(Nd.mk (Bb k) n s l).isStmt=true:=by
  rcases M with h|rfl
  . exact VO h N
  . exact N
 have U:(Nd.mk (Bb k) n s l).wf:=by
  obtain ⟨-,-,Z⟩:=X;exact ⟨Ab,Ab,Z⟩
 have HD:=iF (λw1 Z h2=>fJ (ρ:=ρ) (κ:=κ) (sb:=sb) hw hm Y O U hz a c0 w1 (S:=(· < w.heap.size)) Z h2);have aa:=h.fresh;have hn:∀k,w.heap.size<=k -> ¬MZ (ρ k):=λk M e=>by rw [aa k M] at e;exact e
 have F:Fr (λk=>MZ (ρ k)) w w:=mI _ w;generalize st.run1 (Bb k) n s l=r at *;generalize Bb k=k2 at *;refine Ad func195 ntmps195 rfl rfl (cS (eB [_,_,_,_] ?_));intro b1 w2 h4 x5 p6 z7;revert h G F;refine eE x5 ?_;intro h G F;refine kC (HI.out _) ?_;rintro _ w9 ⟨⟨⟩,x8⟩;revert h4 h G F;refine eY x8 ?_;intro ae h4 h G F;refine C1 Pg (eV [_] [_,_,_,_] h4 ?_);intro af ag V ah;have h:=StoreAt.fr h V (λk M=>hn k (by have:k=_:=M;omega));revert G F;refine eF V ?_;intro G F;refine kQ (HD.out _ Ae Ae) ?_;rintro _ ai ⟨ac,ad,⟨⟩,aj,ak,ab⟩;have F:=mL F ab (λk M=>iG M);refine kR ?_;exact ⟨_,_,rfl,Ro.low Ae Ab,Ae,F⟩
end
section
variable {l:Sl} {Q:Exit->Act->wD->Prop} {ops:Array Oper} {rest:List Oper} {pos:String} {after:Array Edge} {B:List PanicEntry->wD->Prop}
def Nh {f:FuncId} {xs:List Operand} {tys:Array TypeId} {vs:lV} {d:Option Nat} (U:B0 P f=true) (G:evs l xs=some vs) (C:Calls P f vs.toArray w (UL (λ_ _=>False) B)) (M:∀c w1,B c w1->QW n Q (.panic c) l w1) :
 LW P n ops Q (⟨d,.call ⟨.value (.func f),xs.toArray,tys⟩,ty,pos,after,none⟩::rest) l w:=by
 unfold LW;unfold QW at M;intro a N;unfold wpList;rw [AG (Bd rfl)];left;have O:=AQ (n:=n) (tys:=tys) (ty:=ty) U G C (λ_ _ h=>h.elim);unfold N3 at O;exact O a _ _ _ _ _ _ N (λv w1 h=>h.elim) (λc w1 h=>M c w1 h a N)
end
def Ni {l:Sl} {S:wD->Prop} {tab:Tab} {t ty:Nat} {p q:Bool} (T:TabOk P tab) (G:AD tab t=some (.bool,sz)) (M:ev l x=some (.bool p)) (N:ev l y=some (.bool q)):Br P n l S (.binOp .neq t x y m) ty (.bool (decide (p≠q))):=by
 unfold Br;intro _ w O pos after g h _;have U:(eqGuard .neq t x y (.bool p) (.bool q)).run P w = .ok () w:=by unfold eqGuard;simp
 have V:P.underlying t=some .bool:=(T _ _ _ G).under;have X:(Op.equal t (.bool p) (.bool q)).run P w = .ok (p==q) w:=by
  show (Op.equalIn (9999+1) t (.bool p) (.bool q)).run P w=_;unfold Op.equalIn;simp [AE V,iP]
 simp [execOp,h.ev M,h.ev N,U,X,binOp];cases p<;>cases q<;>rfl
def Nj (e:Int):List PanicEntry:=[{ v:=.iface 240 (.agg #[.int .i64 e]),recovered:=false }]
structure RC where
 rb:Nat
 sb:Nat
 eb:Nat
 ec:Nat
 g:PG
 va:oA
 vc:Nat
 pa:oA
 pc:Nat
 ma:oA
 mc:Nat
 fuel:Nat
 S:nP
def fK (r:Rl):Prop:=MZ r\/r = .other 0\/r = .other 1
structure RunAt (c:RC) (P:nP) (ρ:Nat->Rl) (κ:Nat->Nat) (w:wD) (r:Rn):Prop where
 role:ρ c.rb = .other 0
 rolE:ρ c.eb = .other 1
 rem:r.rem<=c.fuel
 blk:Blk w c.rb [.slice c.va c.g.vars.length c.vc,.slice c.pa c.g.procs.length c.pc,.int .u8 c.g.main.kind,.int .i64 c.g.main.num,str c.g.main.name,.slice c.ma c.g.main.kids.length c.mc,.pointer (some ⟨c.sb,0,none⟩),.int .i64 ((c.fuel:Int)-r.rem),.int .i64 c.fuel,.slice (some ⟨c.eb,0,none⟩) c.g.procs.length c.ec]
 ent:∃es:List Int,es.length=c.g.procs.length/\Blk w c.eb (AZ es)
 st:StoreAt ρ κ w c.sb r.st
 wf:∃K,r.st.WF K (1000+(c.fuel-r.rem))
 procs:PDs c.S w c.g.procs c.pa
 sub:∀k,c.S k->P k
 off:∀k,P k -> ¬fK (ρ k)/\k<w.heap.size
section
variable {c:RC} {P P':nP} {ρ':Nat->Rl} {κ':Nat->Nat} {T:nP}
def PDs.frS {l:List PD} {a:oA} (h:PDs S w l a) (x:Fr T w w') (G:∀b,S b -> ¬T b):PDs S w' l a:=
 h.mono aFh (λb _ _ _ M ⟨N,pc,ba,bc,h1,h2,h3⟩=>⟨N,pc,ba,bc,h1.fr x (G b M),h2.fr x G,mF h3 x G⟩)
def RunAt.ext (h:RunAt c P ρ κ w r) (x:Ext w w'):RunAt c P ρ κ w' r:=by
 obtain ⟨O,U,V,X,⟨es,Y,Z⟩,h7,h8,h9,M,G⟩:=h;have hs:=x.size;exact ⟨O,U,V,X.ext x,⟨es,Y,Z.ext x⟩,h7.ext x,h8,h9.ext x,M,λk N=>⟨(G k N).1,by have:=(G k N).2;omega⟩⟩
instance  : LfE w w' (RunAt c P ρ κ w r) (RunAt c P ρ κ w' r):=⟨λx h=>Bk.RunAt.ext h x⟩
def Run (c:RC) (P:nP) (w:wD) (r:Rn):Prop:= ∃ ρ κ,RunAt c P ρ κ w r
def Run.ext (h:Run c P w r) (x:Ext w w'):Run c P w' r:=h.imp λ_ ⟨κ,h⟩=>⟨κ,h.ext x⟩
instance  : LfE w w' (Run c P w r) (Run c P w' r):=⟨λx h=>Bk.Run.ext h x⟩
def Run.blk (h:Run c P w r):Blk w c.rb [.slice c.va c.g.vars.length c.vc,.slice c.pa c.g.procs.length c.pc,.int .u8 c.g.main.kind,.int .i64 c.g.main.num,str c.g.main.name,.slice c.ma c.g.main.kids.length c.mc,pt c.sb,.int .i64 ((c.fuel:Int)-r.rem),.int .i64 c.fuel,.slice (some ⟨c.eb,0,none⟩) c.g.procs.length c.ec]:=by
 obtain ⟨_,_,h⟩:=h;exact h.blk
def Run.rem (h:Run c P w r):r.rem<=c.fuel:=by
 obtain ⟨_,_,h⟩:=h;exact h.rem
def Cl (P:nP) (w w':wD):nP:=λk=>P k\/(w.heap.size<=k/\k<w'.heap.size)
def Run.more (h:Run c P w r) (x:Ext w w'):Run c (Cl P w w') w' r:=by
 obtain ⟨ρ,κ,h⟩:=h;obtain ⟨O,U,V,X,Y,Z,h7,h8,h9,M⟩:=h.ext x;refine ⟨ρ,κ,O,U,V,X,Y,Z,h7,h8,λk G=>iG (h9 k G),λk G=>?_⟩;rcases G with G|⟨G,N⟩
 . exact M k G
 . refine ⟨λe=>?_,N⟩;rw [h.st.fresh k G] at e;rcases e with e|e|e
   . exact e
   . cases e
   . cases e
def Run.less (h:Run c P' w r) (M:∀k,c.S k->P k) (N:∀k,P k->P' k):Run c P w r:=by
 obtain ⟨ρ,κ,O,U,V,X,Y,Z,h7,h8,h9,G⟩:=h;exact ⟨ρ,κ,O,U,V,X,Y,Z,h7,h8,M,λk hk=>G k (N k hk)⟩
def Run.sub (h:Run c P w r):∀k,c.S k->P k:=by
 obtain ⟨_,_,h⟩:=h;exact h.sub
def RunA (c:RC) (P:nP) (X:Except Int Rn) (w:wD):Ending->wD->Prop:=λe w'=> ∃r,e = .returned (.tuple #[])/\X = .ok r/\Run c P w' r/\Fr (λk=> ¬P k) w w'
def RunA.ret {X:Except Int Rn} (h:RunA c P X w e w'):∃v,e = .returned v:=by
 obtain ⟨_,h,-⟩:=h;exact ⟨_,h⟩
def RJ {α:Type} (P:nP) (X:Except Int α) (w:wD) (ch:List PanicEntry) (w':wD):Prop:= ∃er,X = .error er/\ch=Nj er/\Fr (λk=> ¬P k) w w'
def DG (c:RC) (P:nP) (X:Except Int Rn) (w:wD):Ending->wD->Prop:=UL (RunA c P X w) (RJ P X w)
def ValA (c:RC) (P:nP) (X:Except Int (Bool×Rn)) (w:wD):Ending->wD->Prop:=λe w'=> ∃u r,e = .returned (.bool u)/\X = .ok (u,r)/\Run c P w' r/\Fr (λk=> ¬P k) w w'
def ValA.ret {X:Except Int (Bool×Rn)} (h:ValA c P X w e w'):∃v,e = .returned v:=by
 obtain ⟨_,_,h,-⟩:=h;exact ⟨_,h⟩
def ZY (c:RC) (P:nP) (X:Except Int (Bool×Rn)) (w:wD):Ending->wD->Prop:=UL (ValA c P X w) (RJ P X w)
def ExpA (X:Except Int Int) (w:wD):Ending->wD->Prop:=λe w'=> ∃v,e = .returned (.int .i64 v)/\X = .ok v/\Ext w w'
def ExpA.ret {X:Except Int Int} (h:ExpA X w e w'):∃v,e = .returned v:=by
 obtain ⟨_,h,-⟩:=h;exact ⟨_,h⟩
def fL (X:Except Int Int) (w:wD) (ch:List PanicEntry) (w':wD):Prop:= ∃er,X = .error er/\ch=Nj er/\Ext w w'
def Tk (e:Int) (G:e≠0) (w:wD):Calls prog 209 #[.int .i64 e] w (UL (λ_ _=>False) (λh w'=>h=Nj e/\Ext w w')):=by
 have X:=Ne w;refine Ad func209 ntmps209 rfl rfl (eK ?_);refine C1 (xB [_]) (C1 (UM AU rfl) (WD rfl (AF ?_)));exact iH ⟨_,rfl,rfl,X⟩
def Stp.WF.mono {K:List (Int×Int)} {m':Nat} (h:st.WF K m) (G:m<=m'):st.WF K m':=⟨h.len,h.base,h.calls,h.cell,h.nc,λf M=>jM (h.vb f M) G⟩
def Run.tick (h:Run c P w r) (hr:0<r.rem) (x:Fr (· = c.rb) w w') (X:Blk w' c.rb [.slice c.va c.g.vars.length c.vc,.slice c.pa c.g.procs.length c.pc,.int .u8 c.g.main.kind,.int .i64 c.g.main.num,str c.g.main.name,.slice c.ma c.g.main.kids.length c.mc,pt c.sb,.int .i64 ((c.fuel:Int)-r.rem+1),.int .i64 c.fuel,.slice (some ⟨c.eb,0,none⟩) c.g.procs.length c.ec]):Run c P w' ⟨r.st,r.rem-1⟩/\Fr (λk=> ¬P k) w w':=by
 obtain ⟨ρ,κ,O,U,h3,h4,⟨es,Y,Z⟩,h7,⟨K,h8⟩,h9,N,M⟩:=h;have hs:=x.size;have V:∀k,P k -> ¬k=c.rb:=λk G e=>(M k G).1 (by rw [e,O];exact iH (iG rfl))
 refine ⟨⟨ρ,κ,O,U,by simp only;omega,?_,⟨es,Y,Z.fr x (λe=>by rw [show c.eb=c.rb from e,O] at U;simp at U)⟩,h7.fr x (λk G e=>by rw [show k=c.rb from G,O] at e;exact e),⟨K,h8.mono (by simp only;omega)⟩,h9.frS x (λk G e=>V k (N k G) e),N,λk G=>⟨(M k G).1,by have:=(M k G).2;omega⟩⟩,x.weaken (λk G e=>V k e G)⟩;simp only;rw [show ((c.fuel:Int)-((r.rem-1:Nat):Int))=(c.fuel:Int)-r.rem+1 by omega];exact X
def Nk (hc:c.fuel<=10000) (w:wD) (h:Run c P w r):Calls prog 190 #[pt c.rb] w (DG c P (A6 r) w):=by
 have X:=Ne w;have N:=h.blk;have ab:=h.rem;have HI:=iF h;clear h;by_cases Y:r.rem=0
 . have e:A6 r = .error 18:=by unfold A6;rw [AG Y]
   rw [e];rw [Y] at N;have HF:=iF (λw1=>Tk 18 B9 w1);refine Ad func190 ntmps190 rfl rfl ?_;refine eK ?_;refine Aq (λO=>Ext w O) 8 (.pure 0 (.pure 1 (.pure 2 (.pure 3 (.pure 4 (.pure 5 (.pure 6 (.pure 7 .tail)))))))) mixed AU (Aa (Aa Ag)) ?_;intro w1 x2 _;have U:(λO=>Ext w O) w1:=x2;simp only at U;have G:=N;have X:=X.ext x2;refine ⟨U,?_⟩;refine Tq rfl Mv (Tq rfl Pn (Tq rfl Pf (Tq rfl (Db G) (Tq rfl Mv (Tq rfl Pn (Tq rfl Pf (Tq rfl (Db G) ?_)))))));refine Ar rfl (C1 V6 (cT (TS (Al (Nh AU rfl (HF.out _) ?_)))));intro c5 w6 q7;refine AI (AF ?_);exact iH ⟨_,rfl,18,rfl,q7.1,mG (X.trans q7.2)⟩
 . have e:A6 r = .ok ⟨r.st,r.rem-1⟩:=by unfold A6;rw [At Y]
   rw [e];have F:=mI (· = c.rb) w;refine Ad func190 ntmps190 rfl rfl ?_;refine eK ?_;refine Aq (λO=>Ext w O) 8 (.pure 0 (.pure 1 (.pure 2 (.pure 3 (.pure 4 (.pure 5 (.pure 6 (.pure 7 .tail)))))))) mixed AU (Aa (Aa Ag)) ?_;intro Z V _;have M:(λO=>Ext w O) Z:=V;simp only at M;have G:=N;revert N F;refine eE V ?_;intro N F;refine ⟨M,?_⟩;refine Tq rfl Mv (Tq rfl Pn (Tq rfl Pf (Tq rfl (Db G) (Tq rfl Mv (Tq rfl Pn (Tq rfl Pf (Tq rfl (Db G) ?_)))))));refine Ar rfl ?_;refine eK ?_;refine eV [_] [_,_,_,_,_,_,_,_,_,_] N ?_;intro ac ad aa _;clear N;have F:=F.fr aa Ab;refine Ak (Bm rfl ?_);have h9:=HI.out.tick Ab F Ae;exact iG ⟨_,rfl,rfl,h9.1,h9.2⟩
def Tl (e:Int) (w:wD):Ending->wD->Prop:=UL (λen w'=>en = .returned (.tuple #[])/\e=0/\Ext w w') (λch w'=>e≠0/\ch=Nj e/\Ext w w')
def ID (e:Int) (p:Value) (w:wD):Calls prog 191 #[p,.int .i64 e] w (Tl e w):=by
 have X:=Ne w;by_cases G:e=0
 . subst G;refine Ad func191 ntmps191 rfl rfl (cS (C1 Mv (C1 V2 (cT (LT (Ao (Bm rfl ?_)))))));exact iG ⟨rfl,rfl,X⟩
 . have M:=iF (λw1=>Tk e G w1);refine Ad func191 ntmps191 rfl rfl (cS (C1 Mv (C1 V2 (cT (YO (Al (C1 Mv (Nh AU rfl (M.out _) ?_))))))));intro N O h;refine AF ?_;exact iH ⟨_,rfl,G,h.1,X.trans h.2⟩
def Nl {K:List (Int×Int)} (G:st.WF K m) (M:m<=1000000):Li st.look 220 [pt sb] (λw=>StoreAt ρ κ w sb st):=λs w N=>cZ G M s w N.h
def dF (U:c.fuel<=10000) (t:Nd) (M:t.wf) (N:t.isExpr=true) (a:oA) (m:Nat) (S:nP) (w:wD) (O:t.sits S w a) (h:Run c P w r) :
 Calls prog 219 #[t.val a m,.func (.func 220) #[pt c.sb] #[]] w λe w'=>e = .returned (.tuple #[.bool (decide ((AW r.st.look t).1≠0)),.int .i64 (AW r.st.look t).2])/\Ext w w':=by
 obtain ⟨ρ,κ,h⟩:=h;obtain ⟨K,G⟩:=h.wf;exact ZV AU (Nl (ρ:=ρ) (κ:=κ) (sb:=c.sb) G Ab) t M N S a m w O (EV h.st)
def dG (U:c.fuel<=10000) (t:Nd) (M:t.wf) (N:t.isExpr=true) (a:oA) (m:Nat) (S:nP) (w:wD) (O:t.sits S w a) (h:Run c P w r) :
 Calls prog 221 #[t.val a m,.func (.func 220) #[pt c.sb] #[]] w (eL (AW r.st.look t) w):=by
 obtain ⟨ρ,κ,h⟩:=h;obtain ⟨K,G⟩:=h.wf;exact PV AU (Nl (ρ:=ρ) (κ:=κ) (sb:=c.sb) G Ab) t M N S a m w O (EV h.st)
def Uo (hc:c.fuel<=10000) (t:Nd) (hw:t.wf) (hx:t.isExpr=true) (a:oA) (m:Nat) (S:nP) (w:wD) (hs:t.sits S w a) (h:Run c P w r) :
 Calls prog 208 #[pt c.rb,t.val a m] w (UL (ExpA (BF t r) w) (fL (BF t r) w)):=by
 have X:=Ne w;have M:=Cd _ _ hs;have HE:=iF (λw1 h1 h2=>dG (c:=c) (P:=P) (r:=r) hc t hw hx a m (· < w.heap.size) w1 h1 h2);have HC:=iF (λe w1=>ID e (pt c.rb) w1);unfold Tl at HC;have e1:BF t r=if (AW r.st.look t).2≠0 then .error (AW r.st.look t).2 else .ok (AW r.st.look t).1:=rfl
 rw [e1];clear hs e1;generalize AW r.st.look t=v at *;obtain ⟨k,n,s,l⟩:=t;refine Ad func208 ntmps208 rfl rfl ?_
 focus
  refine cS (eB [_,_,_,_] ?_);intro b1 w2 h4 x5 _ _;revert h X M;refine eE x5 ?_;intro h X M;refine eK ?_;refine Aq (λO=>Ext w2 O) 11 (.pure 0 (.pure 1 (.pure 2 (.pure 3 (.pure 4 (.pure 5 (.fork 6 (.pure 7 (.pure 8 (.pure 9 (.pure 10 .tail)))) .none))))))) mixed AU (Aa Ag) ?_;intro w8 x9 _;have G:(λO=>Ext w2 O) w8:=x9;simp only at G;have U:=h4;have V:=h;revert h X M;refine eE x9 ?_;intro h X M;refine ⟨G,?_⟩;refine Tq rfl (xL [_,_,_,_] (λO Y=>(mN U Y))) ?_;refine eT ?_;refine Tq rfl (Ap Ac rfl rfl rfl (λO Y=>mM (mN (Run.blk V) Y) rfl)) (Tq rfl (EH rfl rfl) ?_);refine tC rfl rfl (HE.out _ Ae Ae) ?_;rintro _ ab ⟨⟨⟩,Z⟩;revert G X;refine eE Z ?_;intro G X;refine ⟨G,?_⟩;refine Tq rfl Mv (Tq rfl Px (Tq rfl Px (Tq rfl Pa ?_)));refine Ar rfl ?_;refine eK ?_;refine A4 (AQ AU rfl (HC.out _ _) (λ_ _ h=>⟨_,h.1⟩)) rfl ?_ ?_;rotate_left;intro ac ad N
  rotate_right 1
  rintro _ ae ⟨⟨⟩,af,aa⟩;have X:=X.ext aa;refine kR ?_;rotate_left;refine AI (AF ?_);rotate_left
 . exact iG ⟨_,rfl,by rw [At Ab],X⟩
 . exact iH ⟨_,rfl,v.2,by rw [AG N.1],N.2.1,X.trans N.2.2⟩
def PW (hc:c.fuel<=10000) (t:Nd) (hw:t.wf) (hx:t.isExpr=true) (a:oA) (m:Nat) (w:wD) (hs:t.sits P w a) (h:Run c P w r) :
 Calls prog 206 #[pt c.rb,t.val a m] w (ZY c P (BK t r) w):=by
 have X:=Ne w;have HR:=iF h;clear h;have e1:∀N,A6 r = .ok N->BK t r=if (AW N.st.look t).2≠0 then .error (AW N.st.look t).2 else .ok (decide ((AW N.st.look t).1≠0),N):=λN h1=>by
  unfold BK;rw [h1];by_cases hv:(AW N.st.look t).2≠0
  . simp only [i6,BF,AG hv]
  . simp only [i6,BF,At hv]
 have e2:∀er,A6 r = .error er->BK t r = .error er:=λer h1=>by unfold BK;rw [h1];rfl
 have HC:=iF (λe w1=>ID e (pt c.rb) w1);unfold Tl at HC;have HT:=λPP N w1 h1 h2=>dF (c:=c) (P:=PP) (r:=N) hc t hw hx a m P w1 h1 h2
 obtain ⟨k,n,s,l⟩:=t;change Calls prog _ #[_,.agg #[.int .u8 k,.int .i64 n,str s,.slice a l.length m]] w _;refine Ad func206 ntmps206 rfl rfl ?_;refine cS (eB [_,_,_,_] ?_);intro b1 w2 h4 x5 p6 z7;revert X hs;refine eE x5 ?_;intro X hs;refine C1 Pa (cT ?_);have h1:=HR.out.more X;have HS:=iF (λN w1 h=>Nk (c:=c) (P:=Cl P w w2) (r:=N) hc w1 h);unfold DG at HS;have HT:=iF (HT (Cl P w w2));have F:Fr (λk=> ¬P k) w w2:=mG X;clear X
 focus
  refine eK ?_;refine A4 (AQ AU rfl (HS.out _ _ Ae) (λ_ _ h=>h.ret)) rfl ?_ ?_;rotate_left;intro am an ag
  rotate_right 1
  rintro _ V ⟨aa,⟨⟩,Y,G,ab⟩;revert h4 hs F;refine eF ab ?_;intro h4 hs F;refine eK ?_;refine Aq (λwz=>Ext V wz) 11 (.pure 0 (.pure 1 (.pure 2 (.pure 3 (.pure 4 (.pure 5 (.fork 6 (.pure 7 (.pure 8 (.pure 9 (.pure 10 .tail)))) .none))))))) mixed AU (Aa Ag) ?_;intro ac Z _;have M:(λwz=>Ext V wz) ac:=Z;simp only at M;have U:=G;have ad:=h4;revert G hs F;refine eE Z ?_;intro G hs F;refine ⟨M,?_⟩;refine Tq rfl (xL [_,_,_,_] (λwz hz=>(mN ad hz))) ?_;refine eT ?_;refine Tq rfl (Ap Ac rfl rfl rfl (λwz hz=>mM (mN (Run.blk U) hz) rfl)) (Tq rfl (EH rfl rfl) ?_);refine tC rfl rfl (HT.out _ _ Ae Ae) ?_;rintro _ ah ⟨⟨⟩,ae⟩;revert M G F;refine eE ae ?_;intro M G F;refine ⟨M,?_⟩;refine Tq rfl Mv (Tq rfl Px (Tq rfl Px (Tq rfl Pa ?_)));refine Ar rfl ?_;refine eK ?_;refine A4 (AQ AU rfl (HC.out _ _) (λ_ _ h=>⟨_,h.1⟩)) rfl ?_ ?_;rotate_left;intro ai aj O
  rotate_right 1
  rintro _ ak ⟨⟨⟩,al,af⟩;revert G F;refine eE af ?_;intro G F;refine kR ?_;rotate_left;refine AI (AF ?_);rotate_left;refine AI (AF ?_);rotate_left
 . exact iG ⟨_,aa,rfl,by rw [e1 _ Y,At Ab],G.less HR.out.sub (λk=>iG),F⟩
 . exact iH ⟨_,rfl,_,by rw [e1 _ Y,AG O.1],O.2.1,F.ext O.2.2⟩
 . obtain ⟨er,g1,g2,g3⟩:=ag;exact iH ⟨_,rfl,er,e2 _ g1,g2,F.fr g3 (λk hk=>iG (λh=>hk (iG h)))⟩
def RK (hc:c.fuel<=10000) (G:Bool) (t:Nd) (hw:t.wf) (hx:t.isExpr=true) (a:oA) (m:Nat) (w:wD) (hs:t.sits P w a) (h:Run c P w r) :
 Calls prog 207 #[pt c.rb,t.val a m,.bool G] w (DG c P (Bj t G r) w):=by
 have X:=Ne w;have HR:=iF h;have e1:∀q r1,BK t r = .ok (q,r1)->Bj t G r=if q≠G then .error 15 else .ok r1:=λq r1 O=>by
  unfold Bj;rw [O];rfl
 have e2:∀U,BK t r = .error U->Bj t G r = .error U:=λU O=>by unfold Bj;rw [O];rfl
 have HF:=iF (λw1=>Tk 15 B9 w1);have HH:=λPP w1 O h2=>PW (c:=c) (P:=PP) (r:=r) hc t hw hx a m w1 O h2
 obtain ⟨k,n,s,l⟩:=t;change Calls prog _ #[_,.agg #[.int .u8 k,.int .i64 n,str s,.slice a l.length m],_] w _;refine Ad func207 ntmps207 rfl rfl (cS (eB [_,_,_,_] ?_));intro b1 w2 h4 x5 _ _;revert X hs;refine eE x5 ?_;intro X hs;refine cT ?_;have O:=HR.out.more X;have HH:=iF (HH (Cl P w w2));unfold ZY at HH;have F:Fr (λk=> ¬P k) w w2:=mG X
 focus
  refine eK ?_;refine A4 (AQ AU rfl (HH.out _ (mK Ae (λb h=>iG h)) Ae) (λ_ _ h=>h.ret)) rfl ?_ ?_;rotate_left;intro ag ah ab
  rotate_right 1
  rintro _ ac ⟨ad,V,⟨⟩,M,Y,Z⟩;have F:=mL F Z (λk hk=>iG (λh=>hk (iG h)));refine C1 Mv (C1 (Ni Ac rfl rfl rfl) (cT (BT rfl (λaa=>?_) (λaa=>?_))));refine Al (Nh AU rfl (HF.out _) ?_);intro ae af N;refine AF ?_;rotate_left;refine Ao (Bm rfl ?_);rotate_left;refine AI (AF ?_);rotate_left
 . exact iH ⟨_,rfl,15,by rw [e1 _ _ M,AG Ae],N.1,F.ext N.2⟩
 . exact iG ⟨V,rfl,by rw [e1 _ _ M,At (λh=>h Ae)],Y.less HR.out.sub (λk=>iG),F⟩
 . obtain ⟨U,g1,g2,g3⟩:=ab;exact iH ⟨_,rfl,U,e2 _ g1,g2,F.fr g3 (λk hk=>iG (λh=>hk (iG h)))⟩
end
def Ku {l:Sl} {tab:Tab} {fn:Func} {R:Ending->wD->Prop} {N:Nat} {V:Sk} {vs:lV} (h:fn.results = #[.cell c N,.cell sb i]) (T:TabOk P tab) (ht:AD tab N=some (sE,sz)) (X:AD tab i=some (V,m)) (hs:sE.agg=true) (aa:V.agg=true)
 (hv:look l c=some (pt b)) (ab:look l sb=some (pt g)) (hb:Blk w b vs) (ac:Blk w g cs) (hl:vs.length=sz) (ad:cs.length=m) (hR:R (.returned (.tuple #[.agg vs.toArray,.agg cs.toArray])) w):QW n (bodyPost P fn R) .ret l w:=by
 unfold QW;intro a ha;refine ⟨ha.defers,.tuple #[.agg vs.toArray,.agg cs.toArray],?_,hR⟩;have e:(loadVar N ⟨b,0,none⟩).run P w = .ok (.agg vs.toArray) w:=by
  simp only [iV,je,iP,loadVar,CB (T _ _ _ ht),hs,if_true,Cb (T _ _ _ ht)];rw [<-hl,CG hb.row]
 have e':(loadVar i ⟨g,0,none⟩).run P w = .ok (.agg cs.toArray) w:=by
  simp only [iV,je,iP,loadVar,CB (T _ _ _ X),aa,if_true,Cb (T _ _ _ X)];rw [<-ad,CG ac.row]
 have Y:=ha.has c _ hv;have Z:=ha.has sb _ ab;simp only [jL] at Y Z;simp [results,h,Y,Z,e,e',asAddr]
section
variable {c:RC} {P P':nP} {T:nP}
def RL (c:RC) (P:nP) (rem:Nat) (x:Int×Stp) (w:wD):Ending->wD->Prop:=λe w'=>e = .returned (.int .i64 x.1)/\Run c P w' ⟨x.2,rem⟩/\Fr (λk=> ¬(P k\/k=c.rb)) w w'
def RunAt.store (h:RunAt c P ρ κ w r) {x:Int} (U:∃K,st.WF K (1000+(c.fuel-r.rem))) (hs:StR ρ c.sb st x w e w'):RL c P r.rem (x,st) w e w':=by
 obtain ⟨ρ',κ',h1,V,h3,N⟩:=hs;obtain ⟨k1,X,k3,Y,⟨es,k5,Z⟩,k7,k8,k9,O,M⟩:=h;have hz:=N.size;have hP:∀k,P k -> ¬MZ (ρ k):=λk G e=>(M k G).1 (iG e)
 refine ⟨h1,⟨ρ',κ',by rw [V _ Y.lt,k1],by rw [V _ Z.lt,X],k3,Y.fr N (λe=>by rw [k1] at e;exact e),⟨es,k5,Z.fr N (λe=>by rw [X] at e;exact e)⟩,h3,U,k9.frS N (λk G e=>hP k (O k G) e),O,λk G=>⟨?_,by have:=(M k G).2;omega⟩⟩,N.weaken (λk G e=>by rcases e with e|e;exact hP k e G;rw [e,k1] at G;exact G)⟩;rw [V _ (M k G).2];exact (M k G).1
def dH (Z:c.fuel<=10000) (v:VD) (M:v.kind=1\/v.kind=3) (O:v.len=0) (x:Int) (w:wD) (h:Run c P w r) (hr:r.rem<c.fuel) (U:∃K,r.st.WF K (1000+m)) (V:m<c.fuel-r.rem) :
 Calls prog 192 #[pt c.sb,v.val,.int .i64 x] w (RL c P r.rem (r.st.opens v x) w):=by
 obtain ⟨ρ,κ,h⟩:=h;obtain ⟨K,N⟩:=U;refine jE (dA N Ab v M O x w h.st) λe w' X=>h.store ?_ X
 obtain ⟨Y,G⟩:=N.opens M x;exact ⟨Y,G.mono Ab⟩
def Up (N:c.fuel<=10000) (s:lB) (x:Int) (w:wD) (h:Run c P w r):Calls prog 193 #[pt c.sb,str s,.int .i64 x] w (RL c P r.rem (r.st.closes s x) w):=by
 obtain ⟨ρ,κ,h⟩:=h;obtain ⟨K,G⟩:=h.wf;exact jE (ZS G Ab s x w h.st) λe w' M=>h.store ⟨K,G.closes s x⟩ M
def ZZ (N:c.fuel<=10000) (w:wD) (h:Run c P w r):Calls prog 213 #[pt c.sb] w (RL c P r.rem (r.st.leaves) w):=by
 obtain ⟨ρ,κ,h⟩:=h;obtain ⟨K,G⟩:=h.wf;exact jE (ZR G w h.st) λe w' M=>h.store ⟨K,G.leaves⟩ M
def Z0 (hc:c.fuel<=10000) (ps:List VD) (G:List lB) (X:ps.length<=1000) (M N:oA) (O U:Nat) (w:wD) (h:Run c P w r) (Y:VDs P w ps M) (Z:Rows P w (G.map str) N) :
 Calls prog 212 #[pt c.sb,.slice M ps.length O,.slice N G.length U] w (RL c P r.rem (r.st.enters ps G) w):=by
 obtain ⟨ρ,κ,h⟩:=h;obtain ⟨K,V⟩:=h.wf;exact jE (ZT (S:=P) V Ab ps G Ab (λk hk e=>(h.off k hk).1 (iG e)) M N O U w h.st Y Z) λe w' hs=>h.store ⟨K,V.enters Ab G⟩ hs
def gO (Y:c.fuel<=10000) {n:Int} (V:(40<=k/\k<=49)\/k=56) (G:(Nd.mk k n s l).isStmt=true) (M:(Nd.mk k n s l).wf) (X:(Nd.mk k n s l).size<=1000000) (a:oA) (O:Nat) (w:wD) (N:rowSits P w l a) (h:Run c P w r) :
 Calls prog 196 #[pt c.sb,.agg #[.int .u8 k,.int .i64 n,str s,.slice a l.length O]] w (RL c P r.rem (r.st.run1 k n s l) w):=by
 obtain ⟨ρ,κ,h⟩:=h;obtain ⟨K,U⟩:=h.wf;exact jE (fJ U Ab V G M X a O w N h.st) λe w' N=>h.store ⟨K,U.run1 k n s l⟩ N
def dI (Y:c.fuel<=10000) {n:Int} (V:(40<=k/\k<=49)\/k=56) (G:(Nd.mk k n s l).isStmt=true) (M:(Nd.mk k n s l).wf) (X:(Nd.mk k n s l).size<=1000000) (a:oA) (O:Nat) (w:wD) (N:rowSits P w l a) (h:Run c P w r) :
 Calls prog 195 #[pt c.sb,.agg #[.int .u8 k,.int .i64 n,str s,.slice a l.length O]] w (RL c P r.rem (r.st.run1 (Bb k) n s l) w):=by
 obtain ⟨ρ,κ,h⟩:=h;obtain ⟨K,U⟩:=h.wf;exact jE (dE U Ab V G M X a O w N h.st) λe w' N=>h.store ⟨K,U.run1 (Bb k) n s l⟩ N
def EW {Z:Except Int Rn} (h:Run c P' w' G) (F:Fr (λk=> ¬P k) w w') (M:∀k,c.S k->P k) (N:∀k,P k->P' k) (e:Z = .ok G):DG c P Z w (.returned (.tuple #[])) w':=iG ⟨G,rfl,e,h.less M N,F⟩
def Bz {Z:Except Int Rn} {X:Except Int α} {M:List PanicEntry} (q:RJ P' X w1 M w') (F:Fr (λk=> ¬P k) w w1) (N:∀k,P k->P' k) (e:∀G,X = .error G->Z = .error G):DG c P Z w (.panicked M) w':=by
 obtain ⟨G,O,U,V⟩:=q;exact iH ⟨_,rfl,G,e _ O,U,F.fr V (λk Y=>iG (λh=>Y (N k h)))⟩
def RM (h:i<l.length):l[i]? = some (Bu l i):=by
 unfold Bu;rw [iK,iE h];rfl
def EndsA (P:nP) (f l:Nd) (w:wD):Ending->wD->Prop:=λe w'=> ∃a m a' m',e = .returned (.tuple #[f.val a m,l.val a' m'])/\f.sits P w' a/\l.sits P w' a'/\Ext w w'
def EndsA.ret {f l:Nd} (h:EndsA P f l w e w'):∃v,e = .returned v:=by
 obtain ⟨_,_,_,_,h,-⟩:=h;exact ⟨_,h⟩
def Tm {n:Int} (hl:2<=l.length) (ch:l.length<=1000000) (aa:Bool) (a:oA) (c0:Nat) (w:wD) (hs:rowSits P w l a) (Z:∀k,P k->k<w.heap.size) :
 Calls prog 205 #[.agg #[.int .u8 k,.int .i64 n,str s,.slice a l.length c0],.bool aa] w (EndsA P (if aa then Bu l (l.length-1) else Bu l 0) (if aa then Bu l 0 else Bu l (l.length-1)) w):=by
 have X:=Ne w;obtain ⟨kb,ko,rfl,ci,ak⟩:=BI hs (by intro e;subst e;simp at hl);obtain ⟨xa,xc,rx,O⟩:=ak 0 _ (RM Ab);obtain ⟨ya,yc,ry,U⟩:=ak (l.length-1) _ (RM Ab);clear ak hs;generalize Bu l 0=x at *;generalize Bu l (l.length-1)=y at *;obtain ⟨xk,xn,xs,xl⟩:=x;obtain ⟨yk,yn,ys,yl⟩:=y;replace rx:Row w ⟨kb,ko+0*4,none⟩ [.int .u8 xk,.int .i64 xn,str xs,.slice xa xl.length xc]:=rx;have hi:((l.length:Int)-1).toNat=l.length-1:=by omega
 replace ry:Row w ⟨kb,ko+((l.length:Int)-1).toNat*4,none⟩ [.int .u8 yk,.int .i64 yn,str ys,.slice ya yl.length yc]:=by rw [hi];exact ry
 refine Ad func205 ntmps205 rfl rfl ?_
 focus
  refine cS (eB [_,_,_,_] ?_);intro b1 w2 h4 x5 p6 z7;revert X O U rx ry;refine eE x5 ?_;intro X O U rx ry;refine eA [_,_,_,_] ?_;intro b8 w9 M bu cj ck;revert h4 X O U rx ry;refine eE bu ?_;intro h4 X O U rx ry;refine eA [_,_,_,_] ?_;intro cl bf G bv cm cn;revert M h4 X O U rx ry;refine eE bv ?_;intro M h4 X O U rx ry;refine eK ?_;refine Aq (λY=>Ext bf Y) 15 (.pure 0 (.pure 1 (.pure 2 (.pure 3 (.pure 4 (.pure 5 (.pure 6 (.pure 7 (.pure 8 (.pure 9 (.pure 10 (.pure 11 (.fork 12 (.fork 13 (.fork 14 .tail .none) .none) (.fork 13 (.fork 12 (.fork 14 .tail .none) .none) .none)))))))))))))) mixed AU (Aa Ag) ?_;intro bw bg _;have N:(λY=>Ext bf Y) bw:=bg;simp only at N;have b7:=h4;have bh:=rx;have bi:=ry;revert G M X O U;refine eY bg ?_;intro co G M X O U;refine ⟨N,?_⟩;refine eT ?_;refine Tq rfl (Dy [_,_,_,_] Ac rfl rfl rfl (λY hz=>(mJ bh hz)) rfl rfl) ?_;refine eT ?_;refine Tq rfl (AL rfl rfl (iO _ Ab)) (Tq rfl Pi (Tq rfl (BE Ac rfl rfl rfl (λY hz=>(mJ bi hz)) rfl) ?_));refine AC rfl (A2 CC rfl) rfl ?_ aFh ?kr28;rintro _ cp ⟨cq,rfl,ap⟩;have aq:=ap.blk;dsimp only at aq;have bx:=ap.ext;have cr:=ap.pos;have ct:=ap.size;revert N G M X O U;refine eE bx ?_;intro N G M X O U;refine ⟨N,?_⟩;refine AC rfl (A2 CC rfl) rfl ?_ aFh Ay;rintro _ cu ⟨cv,rfl,ar⟩;have au:=ar.blk;dsimp only at au;have bz:=ar.ext;have cw:=ar.pos;have cx:=ar.size;revert aq N G M X O U;refine eE bz ?_;intro aq N G M X O U;refine ⟨N,?_⟩;refine Cq [_,_,_,_] [_,_,_,_] rfl Ac rfl rfl rfl rfl rfl rfl aq rfl rfl ?_ Ay;intro cy a5;have av:=a5.blk;have a6:=a5.fr;have cz:=a5.size;revert au N G M X;refine eF a6 ?_;intro au N G M X;have O:=mF O a6 (λb V h=>by (have h1:=Z b V;have e:b=_:=h;omega));have U:=mF U a6 (λb V h=>by (have h1:=Z b V;have e:b=_:=h;omega));refine ⟨N,?_⟩;refine Ar rfl (eS [_,_,_,_] au ?_);intro aw bj a7 z53;revert av G M X;refine eF a7 ?_;intro av G M X;have O:=mF O a7 (λb V h=>by (have h1:=Z b V;have e:b=_:=h;omega));have U:=mF U a7 (λb V h=>by (have h1:=Z b V;have e:b=_:=h;omega));refine cT (Aj ?_);rotate_left;refine AC rfl (A2 CC rfl) rfl ?_ aFh Ay;rintro _ c1 ⟨c2,rfl,ax⟩;have aj:=ax.blk;dsimp only at aj;have b0:=ax.ext;have c3:=ax.pos
  have c4:=ax.size;revert N G M X O U;refine eE b0 ?_;intro N G M X O U;refine ⟨N,?_⟩;refine AC rfl (A2 CC rfl) rfl ?_ aFh Ay;rintro _ c5 ⟨c6,rfl,ay⟩;have bk:=ay.blk;dsimp only at bk;have b2:=ay.ext;have c7:=ay.pos;have c8:=ay.size;revert aj N G M X O U;refine eE b2 ?_;intro aj N G M X O U;refine ⟨N,?_⟩;refine Cq [_,_,_,_] [_,_,_,_] rfl Ac rfl rfl rfl rfl rfl rfl bk rfl rfl ?_ Ay;intro c9 a8;have az:=a8.blk;have a9:=a8.fr;have da:=a8.size;revert aj N G M X;refine eF a9 ?_;intro aj N G M X;have O:=mF O a9 (λb V h=>by (have h1:=Z b V;have e:b=_:=h;omega));have U:=mF U a9 (λb V h=>by (have h1:=Z b V;have e:b=_:=h;omega));refine ⟨N,?_⟩;refine Ar rfl (eS [_,_,_,_] aj ?_);intro a0 bl ba db;revert az G M X;refine eF ba ?_;intro az G M X;have O:=mF O ba (λb V h=>by (have h1:=Z b V;have e:b=_:=h;omega));have U:=mF U ba (λb V h=>by (have h1:=Z b V;have e:b=_:=h;omega));refine cT (Aj ?_);rotate_left
 . cases aa
   . refine eK ?_;refine Aq (λY=>Fr (λx=>x=b8) aw Y) 3 (.pure 0 (.pure 1 (.fork 2 .tail .none))) mixed AU (Aa Ag) ?_;intro b3 bm _;have ab:(λY=>Fr (λx=>x=b8) aw Y) b3:=mG bm;simp only at ab;have af:=bj;have ag:=av;revert G M X O U;refine eE bm ?_;intro G M X O U;refine ⟨ab,?_⟩;refine Tq rfl (xL [_,_,_,_] (λY hz=>(mH ag hz (by first|omega|(dsimp only;omega))))) (Tq rfl (xL [_,_,_,_] (λY hz=>(mH af hz (by first|omega|(dsimp only;omega))))) ?_);refine Cq [_,_,_,_] [_,_,_,_] rfl Ac rfl rfl rfl rfl rfl rfl M rfl rfl ?_ Ay;intro dc bn;have a1:=bn.blk;have bb:=bn.fr;revert ab G X;refine eF bb ?_;intro ab G X;have O:=mF O bb (λb V h=>by (have h1:=Z b V;have e:b=_:=h;omega));have U:=mF U bb (λb V h=>by (have h1:=Z b V;have e:b=_:=h;omega));refine ⟨ab,?_⟩;refine Ar rfl (eS [_,_,_,_] G ?_);intro b9 ca al _;revert a1 X;refine eF al ?_;intro a1 X;have O:=mF O al (λb V h=>by (have h1:=Z b V;have e:b=_:=h;omega));have U:=mF U al (λb V h=>by (have h1:=Z b V;have e:b=_:=h;omega));refine cT (AR ?_);refine Ku rfl Ac rfl rfl rfl rfl rfl rfl Ae Ae rfl rfl ?_;exact ⟨_,_,_,_,rfl,O,U,X⟩
   . refine eK ?_;refine Aq (λY=>Fr (λx=>x=b8) aw Y) 3 (.pure 0 (.pure 1 (.fork 2 .tail .none))) mixed AU (Aa (Aa Ag)) ?_;intro b4 bo _;have ac:(λY=>Fr (λx=>x=b8) aw Y) b4:=mG bo;simp only at ac;have af:=bj;have ag:=av;revert G M X O U;refine eE bo ?_;intro G M X O U;refine ⟨ac,?_⟩;refine Tq rfl (xL [_,_,_,_] (λY hz=>(mH af hz (by first|omega|(dsimp only;omega))))) (Tq rfl (xL [_,_,_,_] (λY hz=>(mH ag hz (by first|omega|(dsimp only;omega))))) ?_);refine Cq [_,_,_,_] [_,_,_,_] rfl Ac rfl rfl rfl rfl rfl rfl M rfl rfl ?_ Ay;intro dd bp;have a2:=bp.blk;have bc:=bp.fr;revert ac G X;refine eF bc ?_;intro ac G X;have O:=mF O bc (λb V h=>by (have h1:=Z b V;have e:b=_:=h;omega));have U:=mF U bc (λb V h=>by (have h1:=Z b V;have e:b=_:=h;omega));refine ⟨ac,?_⟩;refine Ar rfl (eS [_,_,_,_] G ?_);intro cb cc am _;revert a2 X;refine eF am ?_;intro a2 X;have O:=mF O am (λb V h=>by (have h1:=Z b V;have e:b=_:=h;omega));have U:=mF U am (λb V h=>by (have h1:=Z b V;have e:b=_:=h;omega));refine eK ?_;refine Ku rfl Ac rfl rfl rfl rfl rfl rfl Ae Ae rfl rfl ?_;exact ⟨_,_,_,_,rfl,U,O,X⟩
 . cases aa
   . refine eK ?_;refine Aq (λY=>Fr (λx=>x=b8) a0 Y) 3 (.pure 0 (.pure 1 (.fork 2 .tail .none))) mixed AU (Aa Ag) ?_;intro b5 bq _;have ad:(λY=>Fr (λx=>x=b8) a0 Y) b5:=mG bq;simp only at ad;have ah:=bl;have ai:=az;revert G M X O U;refine eE bq ?_;intro G M X O U;refine ⟨ad,?_⟩;refine Tq rfl (xL [_,_,_,_] (λY hz=>(mH ai hz (by first|omega|(dsimp only;omega))))) (Tq rfl (xL [_,_,_,_] (λY hz=>(mH ah hz (by first|omega|(dsimp only;omega))))) ?_);refine Cq [_,_,_,_] [_,_,_,_] rfl Ac rfl rfl rfl rfl rfl rfl M rfl rfl ?_ Ay;intro de br;have a3:=br.blk;have bd:=br.fr;revert ad G X;refine eF bd ?_;intro ad G X;have O:=mF O bd (λb V h=>by (have h1:=Z b V;have e:b=_:=h;omega));have U:=mF U bd (λb V h=>by (have h1:=Z b V;have e:b=_:=h;omega));refine ⟨ad,?_⟩;refine Ar rfl (eS [_,_,_,_] G ?_);intro cd ce an _;revert a3 X;refine eF an ?_;intro a3 X;have O:=mF O an (λb V h=>by (have h1:=Z b V;have e:b=_:=h;omega));have U:=mF U an (λb V h=>by (have h1:=Z b V;have e:b=_:=h;omega));refine cT (AR ?_);refine Ku rfl Ac rfl rfl rfl rfl rfl rfl Ae Ae rfl rfl ?_;exact ⟨_,_,_,_,rfl,O,U,X⟩
   . refine eK ?_;refine Aq (λY=>Fr (λx=>x=b8) a0 Y) 3 (.pure 0 (.pure 1 (.fork 2 .tail .none))) mixed AU (Aa (Aa Ag)) ?_;intro b6 bs _;have ae:(λY=>Fr (λx=>x=b8) a0 Y) b6:=mG bs;simp only at ae;have ah:=bl;have ai:=az;revert G M X O U;refine eE bs ?_;intro G M X O U;refine ⟨ae,?_⟩;refine Tq rfl (xL [_,_,_,_] (λY hz=>(mH ah hz (by first|omega|(dsimp only;omega))))) (Tq rfl (xL [_,_,_,_] (λY hz=>(mH ai hz (by first|omega|(dsimp only;omega))))) ?_);refine Cq [_,_,_,_] [_,_,_,_] rfl Ac rfl rfl rfl rfl rfl rfl M rfl rfl ?_ Ay;intro df bt;have a4:=bt.blk;have be:=bt.fr;revert ae G X;refine eF be ?_;intro ae G X;have O:=mF O be (λb V h=>by (have h1:=Z b V;have e:b=_:=h;omega));have U:=mF U be (λb V h=>by (have h1:=Z b V;have e:b=_:=h;omega));refine ⟨ae,?_⟩;refine Ar rfl (eS [_,_,_,_] G ?_);intro cf cg ao _;revert a4 X;refine eF ao ?_;intro a4 X;have O:=mF O ao (λb V h=>by (have h1:=Z b V;have e:b=_:=h;omega));have U:=mF U ao (λb V h=>by (have h1:=Z b V;have e:b=_:=h;omega));refine eK ?_;refine Ku rfl Ac rfl rfl rfl rfl rfl rfl Ae Ae rfl rfl ?_;exact ⟨_,_,_,_,rfl,U,O,X⟩
end
end Bk
