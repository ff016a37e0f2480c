/- Texts that the proofs of ExercisePrints need. No condition. (Part 8 of 8.) -/
import Derived.Test.YtjkgmpljepnmiaaGreatDoorPEpr7
set_option linter.unusedSimpArgs false
set_option linter.unusedVariables false
set_option linter.defProp false
set_option maxRecDepth 100000
set_option maxHeartbeats 4000000
open Go.Proofs.Tryz
open List renaming length_append->aU,length_cons->aV,getElem_cons_succ->aW,length_nil->aX,getElem?_eq_getElem->aY,set_cons_zero->aZ,getElem_mem->bD,take_succ_eq_append_getElem->bE,take_length->bH,mem_cons->bR,getElem?_eq_none->bS,not_mem_nil->bX,replicate->cB,append_assoc->cF,length_take->cH,flatten_cons->cI,take_append_drop->cL,drop_eq_getElem_cons->cW,all_eq_true->cX,getD_eq_getElem?_getD->dC,getElem?_append_left->dD,take_succ_cons->dE,mem_singleton->dG
open Go.Lib renaming hid->bA,indexByte->dA
open Bool renaming and_eq_true->bB,false_eq_true->dH
open Or renaming inl->bC,inr->bF
open Go.Result renaming andThen->bG
open Nat renaming zero_le->bI,le_refl->bJ,blt->bM,lt_or_ge->bQ,le_trans->cD,le_of_ble_eq_true->cE,eq_of_beq_eq_true->cQ,ble->cY,beq->cZ
open Option.some renaming injEq->bK,inj->bO
open Go.Sem renaming run_bind->bL,run_pure->bW
open Go renaming Calls->bN
open Go.IntWalk renaming i64_in->bT
open Go.Region renaming ready->bU,binds->dB
open Go.Value.slice renaming injEq->bZ
open Go.DataW renaming trod->cG
open Array renaming getElem?_eq_none->cJ
open List.cons renaming injEq->cK
open Prod.mk renaming injEq->cO
open Go.Value renaming slice->cP,ownBlock->cV,bool->dF
open Go.Addr renaming add->cU
open Bk.Ext renaming refl->dI
open Bk.Nd renaming kind->dM,kids->dN,name->dO,num->dU,val->dW,sits->dY
open Bk.Row renaming ext->dZ,at0->fC
open Bk.EX renaming cells->eP
open Bk.Arr renaming get->eW
namespace Bk
open Go
def Eh {m:lB} (h:A9 m=true):m.length<=16:=by
 simp only [A9,bB,decide_eq_true_eq] at h;exact h.1.1.1.2
def G.wf {f:Nt} {a:Hg} {x:Nd} (h:G f a x):match f with
 | .cl _ y=>y.wf->x.wf
 | _=>x.wf:=by
 induction h with
 | ex _ _ E i2=>exact i2 E
 | cl0=>exact fun h=>h
 | @cl1 lv op t a b x y z h1 F N O U i3 i5=>
  intro L;obtain ⟨-,V,M,-⟩:=FP h1;refine i5 ?_;exact ⟨Ab,Ab,Ab,Ab,Bd,Bd,L,i3,trivial⟩
 | neg _ i=>exact ⟨Ab,Ab,Ab,Ab,Bd,Bd,i,trivial⟩
 | not _ i=>exact ⟨Ab,Ab,Ab,Ab,Bd,Bd,i,trivial⟩
 | num h1 F=>exact ⟨Ab,Ab,Ab,Ab,Bd,Bd,trivial⟩
 | top h=>have:=Eh h;exact ⟨Ab,Ab,Ab,Ab,Ab,Bd,trivial⟩
 | size h=>have:=Eh h;exact ⟨Ab,Ab,Ab,Ab,Ab,Bd,trivial⟩
 | par _ i=>exact i
 | place _ i=>exact i
 | var h=>have:=Eh h;exact ⟨Ab,Ab,Ab,Ab,Ab,Bd,trivial⟩
 | item h _ i=>have:=Eh h;exact ⟨Ab,Ab,Ab,Ab,Ab,Bd,i,trivial⟩
def RQ (l:Hg) (h : ∀v∈l,A9 v=true):A3 (l.map MF):=by
 induction l with
 | nil=>trivial
 | cons v r f=>
  have:=Eh (h v Bd);exact ⟨⟨Ab,Ab,Ab,Ab,Ab,Bd,trivial⟩,f (fun u E=>h u (by simp [E]))⟩
def NQ (t:lB):0<=CE t/\CE t<=255:=by
 unfold CE;split
 . decide
 split
 . decide
 split
 . decide
 split
 . decide
 . decide
def GS.wf {U:NtS} {a:Hg} {l:List Nd} (h:GS U a l) (F:a.length<=9223372036854775807):match U with
 | .ls=>A3 l/\l.length<=a.length
 | _=>A3 l:=by
 induction h with
 | stack h1 f E=>
  have:=Eh E;have v:=f.wf;simp only [IG,bR,cO,bX,or_false] at h1;rcases h1 with ⟨-,rfl⟩|⟨-,rfl⟩<;>exact ⟨⟨Ab,Ab,Ab,Ab,Ab,Bd,v,trivial⟩,trivial⟩
 | tape h1 f=>
  have v:=f.wf;simp only [Kt,bR,cO,bX,or_false] at h1;rcases h1 with ⟨-,rfl⟩|⟨-,rfl⟩|⟨-,rfl⟩|⟨-,rfl⟩<;>exact ⟨⟨Ab,Ab,Ab,Ab,Bd,Bd,v,trivial⟩,trivial⟩
 | call0 h1 f=>
  have:=Eh f;simp only [Gh,bR,cO,bX,or_false] at h1;rcases h1 with ⟨-,rfl⟩|⟨-,rfl⟩<;>exact ⟨⟨Ab,Ab,Ab,Ab,Ab,Bd,trivial⟩,trivial⟩
 | @call1 X m u Y l h1 f E L V=>
  have:=Eh f;have v:=RQ (u::l) (fun v M=>by rcases bR.1 M with rfl|M;exact E;exact L v M);have N:((u::l).map MF).length<=9223372036854775807:=by simp only [List.length_map,aV];omega
  simp only [Gh,bR,cO,bX,or_false] at h1;rcases h1 with ⟨-,rfl⟩|⟨-,rfl⟩<;>exact ⟨⟨Ab,Ab,Ab,Ab,Ab,N,v⟩,trivial⟩
 | branch h1 f E L V i3 i4=>
  simp only [aV,aU] at F;have v2:=f.wf;have v5:=V.wf;have v3:=(i3 Ab).1;have v4:=(i4 Ab).1;simp only [EP,bR,cO,bX,or_false] at h1;rcases h1 with ⟨-,rfl,-⟩|⟨-,rfl,-⟩<;>exact ⟨⟨Ab,Ab,Ab,Ab,Bd,Bd,v2,v3,v4,v5,trivial⟩,trivial⟩
 | lstack h1 f i2=>
  simp only [aV] at F;have:=Eh h1;exact ⟨⟨Ab,Ab,Ab,Ab,Ab,Bd,(i2 Ab).1,trivial⟩,trivial⟩
 | local_ h1 f E L i3=>
  simp only [aV,aU] at F;have:=Eh h1;exact ⟨⟨Ab,Ab,Ab,Ab,Ab,Bd,f.wf,(i3 Ab).1,L.wf,trivial⟩,trivial⟩
 | @upd t a b x y h1 f E=>exact ⟨⟨(NQ t).1,(NQ t).2,Ab,Ab,Bd,Bd,h1.wf,E.wf,trivial⟩,trivial⟩
 | swap h1 f=>exact ⟨⟨Ab,Ab,Ab,Ab,Bd,Bd,h1.wf,f.wf,trivial⟩,trivial⟩
 | bl h1 O=>
  simp only [aV,aU,aX] at F;obtain ⟨v,N⟩:=O Ab;exact ⟨⟨Ab,Ab,Ab,Ab,Bd,Ab,v⟩,trivial⟩
 | ls0=>exact ⟨trivial,bJ _⟩
 | ls1 h1 f O i2=>
  simp only [aV,aU] at F;obtain ⟨v,N⟩:=i2 Ab;refine ⟨⟨(O Ab).1,v⟩,?_⟩;simp only [aV,aU];omega
def VD.wf_ok {v:VD} (h:v.ok=true):v.wf:=by
 simp only [VD.ok,bB] at h;obtain ⟨h1,f⟩:=h;have:=Eh h1;split at f
 . rename_i E;have:v.len=0:=by simpa using f
   exact ⟨Ab,Ab,Ab,Ab,Ab⟩
 . split at f
   . simp only [bB,decide_eq_true_eq] at f;exact ⟨Ab,Ab,Ab,Ab,Ab⟩
   . cases f
def NR {l:List VD} (h:C6 l=true) : ∀v∈l,v.wf:=fun v f=>VD.wf_ok (cX.1 h v f)
section
variable {ts:List Tok} {n:Int}
def XI {σ σ':PS} {a:Hg} (h:Seg ts σ σ' a):a.length<=ts.length:=by
 have h1:=OL (ts:=ts) σ;have f:rem ts σ=a++rem ts σ':=h;rw [f,aU] at h1;omega
def SN (E:BG ts) (O:ts.length<=1000000) {k:Nat} {σ:PS} (h:σ.at_<=ts.length) (F:4*mS ts σ+8<=k) (f:(EQ ts n k σ).2.err=0):(EQ ts n k σ).1.wf:=by
 unfold EQ at f ⊢;simp only at f ⊢;obtain ⟨L,-,-⟩:=JT f;obtain ⟨a,M,N⟩:=(MG E k).2.2.2.1 σ h F L;have:=XI M;exact (N.wf Ab).1
def XJ (F:BG ts) (U:ts.length<=1000000) {k:Nat} {σ:PS} (h:σ.at_<=ts.length) (V:4*mS ts σ+8<=k) (E:(De ts n k σ).2.err=0):(De ts n k σ).1.wf:=by
 have f:=SL F h V E;simp only [PD.ok,bB,decide_eq_true_eq] at f;have:=Eh f.1.1.1;refine ⟨Ab,Ab,NR f.1.2,?_⟩;rw [FV] at E ⊢;simp only at E ⊢;have L:=Aq (n:=n) (t:=[112,114,111,99]) h Az;have M:=AM (n:=n) L.wf;have N:=Aq (n:=n) (t:=[40]) M.wf Az;have O:=FU (n:=n) (k:=k) N.wf;have m:=BC (((L.trans M).trans N).trans O);exact SN F U O.wf Ab E
def VW (U:BG ts) (V:ts.length<=1000000) (k:Nat) : ∀(acc:List PD) (σ:PS),σ.at_<=ts.length->(σ.err=0->4*mS ts σ+9<=k)->(B5 ts n k acc σ).2.err=0->(∀p∈acc,p.wf) -> ∀p∈(B5 ts n k acc σ).1,p.wf:=by
 induction k with
 | zero=>intro acc σ h N f L;rw [B5];exact L
 | succ k X=>
  intro acc σ h N f L;rw [B5] at f ⊢;split at f
  . rename_i M;rw [AU M];simp only at f ⊢;have Y:=(AN h M Az).1;have Z:=N Y;by_cases c:acc.length=64
    . rw [AU c] at f;exfalso;have l0:=BZ (ts:=ts) h (Ap ts σ).pos 5;have E:=DS (n:=n) (k:=k) l0.wf;exact absurd ((E.trans (DT k _ _ E.wf)).ok f) (DQ Az)
    . rw [AE c] at f ⊢;have E:=DS (n:=n) (k:=k) h;have O:=(DT k (acc++[(De ts n k σ).1]) _ E.wf).ok f;have m1:=RN E (JF h) O;refine X _ _ E.wf (fun _=>by omega) f (fun p F=>?_);rcases List.mem_append.1 F with F|F
      . exact L p F
      . have:p=(De ts n k σ).1:=by simpa using F
        rw [this];exact XJ U V h Ab O
  . rename_i M;rw [AE M];exact L
def RR (L:BG ts) (N:ts.length<=1000000) {k:Nat} {σ:PS} (h:σ.at_<=ts.length) (hk:4*mS ts σ+9<=k) (f:(BH ts n k σ).2.err=0):(BH ts n k σ).1.wf:=by
 obtain ⟨O,U,-,-⟩:=IU h f;unfold BH at f O U ⊢;simp only at f O U ⊢;have E:=He (n:=n) k [] σ h;have M:=DT (n:=n) k [] _ E.wf;have F:=Aq (n:=n) (t:=[109,97,105,110]) M.wf Az;have X:=GC (n:=n) (k:=k) F.wf;have Y:=X.ok f;have V:=F.ok Y;have Z:=M.ok V;have m1:=BC E;have m3:=BC ((E.trans M).trans F);exact ⟨by simp only;omega,by simp only;omega,NR (SK L k [] σ h Z rfl),VW L N k [] _ E.wf (fun _=>by omega) V Bd,SN L N F.wf Ab f⟩
end
def Hl (s:lB) (F:s.length<=1000000) (f:(Bf s).2.2=0):(Bf s).1.wf:=by
 have L:=IB s;have M:mS (Cn s).1 (Cn s).2<=(Cn s).1.length:=by unfold mS;split<;>omega
 have E:(Cn s).2.at_<=(Cn s).1.length:=bI _;unfold Bf at f ⊢;simp only at f ⊢;split at f
 . rename_i h;exact absurd f h
 . rename_i h;rw [AE h];exact RR (GD s) Ab E (by unfold Gq;omega) (NN (by simpa using h)).1
open Go.RowKit Go.Proofs
attribute [local irreducible] Go.Calls
def Y0 (ws:List lB) (g:PG):EX:=⟨ws.getD 1 [],Dy ws 0,Dy ws 1,⟨Dy ws 2,Dy ws 3,Dy ws 4⟩,g⟩
noncomputable def Iq (s:lB):Except Int (EX×lB):=
 open Classical in
 if (E2 s).2.2=false then .error 4
 else if ¬QC (Ch (E2 s).1) then .error 3
 else if (ER (E2 s).2.1 (Dy (Ch (E2 s).1) 5).toNat).2.2=false then .error 4
 else if ¬(Bf (ER (E2 s).2.1 (Dy (Ch (E2 s).1) 5).toNat).1).2.2=0 then .error 3
 else if ¬(Bf (ER (E2 s).2.1 (Dy (Ch (E2 s).1) 5).toNat).1).1.text=(ER (E2 s).2.1 (Dy (Ch (E2 s).1) 5).toNat).1 then .error 3
 else if ¬(Y0 (Ch (E2 s).1) (Bf (ER (E2 s).2.1 (Dy (Ch (E2 s).1) 5).toNat).1).1).valid then .error 3
 else .ok (Y0 (Ch (E2 s).1) (Bf (ER (E2 s).2.1 (Dy (Ch (E2 s).1) 5).toNat).1).1,(ER (E2 s).2.1 (Dy (Ch (E2 s).1) 5).toNat).2.1)
def ZN (q:Except Int (EX×lB)) (w:wD):Ending->wD->Prop:=fun e w'=>match q with
 | .ok (x,rest)=> ∃va vc pa pc ma mc,e = .returned (.tuple #[.agg (x.cells va vc pa pc ma mc).toArray,str rest,.int .i64 0])/\x.sits (w.heap.size <= ·) w' va pa ma vc/\Ext w w'
 | .error k=>e = .returned (.tuple #[.agg zeroEX.cells0.toArray,str [],.int .i64 k])/\Ext w w'
def VX (s:lB):(E2 s).1.length<=s.length/\(E2 s).2.1.length<=s.length:=by
 unfold E2 Lib.cut;split
 . simp only [cH,List.length_drop];omega
 . simp
def SO (s:lB) (n:Nat):(ER s n).1.length<=s.length/\(ER s n).2.1.length<=s.length:=by
 unfold ER;split
 . simp
 . simp only [cH,List.length_drop];omega
def Y1 {g:PG} (h:g.ok=true):g.vars.length<=32:=by
 unfold PG.ok at h;simp only [bB,decide_eq_true_eq] at h;exact h.1.1.1.1
set_option maxHeartbeats 8000000 in
def VY (s:lB) (hs:s.length<=100000) (w:wD) (F:Errs2 w) (E:TabsF w) :
 Calls prog 37 #[str s] w (ZN (Iq s) w):=by
 have X:=dI w;have b3:=E.g;have HC:=bA (fun w1 h=>ZL s Ab w1 h);have am:=VX s;obtain ⟨q,U⟩ : ∃q,q=Iq s:=⟨_,rfl⟩
 rw [<-U];unfold Iq at U;generalize E2 s=ct at *;obtain ⟨c1,c2,c3⟩:=ct;simp only at am U HC;refine Af func37 ntmps37 rfl rfl ?_;refine cS (eA [_,_,_,_,_,_,_,_,_,_,_,_] ?_);intro b1 w2 O x6 p7 z8;revert F E X;refine eE x6 ?_;intro F E X;refine eK ?_;refine cC rfl (HC.out _ Ag) ?_;rintro _ b4 ⟨⟨⟩,x9⟩;revert O F E X;refine eY x9 ?_;intro b5 O F E X;refine C1 Mv (C1 Px (C1 Px (C1 Px (C1 Pa (C1 Pa (C1 Pa (cT (Aj ?_))))))));cases c3 with
 | false=>
  rw [AU rfl] at U;subst U;refine eK ?_;refine C1 (xB [_,_,_,_,_,_,_,_,_,_,_,_]) (eS [_,_,_,_,_,_,_,_,_,_,_,_] O ?_);intro b6 an ao b7;revert F E X;refine eF ao ?_;intro F E X;refine eK ?_;refine CO rfl Ac rfl rfl rfl an rfl rfl rfl ?_;exact ⟨rfl,X⟩
 | true=>
 rw [AE Az] at U;have HH:=bA (fun w1 h1 h2=>OJ c1 Ab w1 h1 h2);have ab:=RH ((Ch c1).getD (3+2*5) []);change 0<=Dy (Ch c1) 5/\Dy (Ch c1) 5<=1000000000 at ab;have aa : ∀i,((Ch c1).getD i []).length<=c1.length:=fun i=>SG i
 generalize Ch c1=Y at *;rcases (Decidable.em (QC Y)).symm with hk|hk
 . rw [AU hk] at U;rw [show QD Y = .tuple #[.agg #[str [],.int .i64 0,.int .i64 0,.int .i64 0,.int .i64 0,.int .i64 0,.slice none 0 0,.slice none 0 0,.int .u8 0,.int .i64 0,str [],.slice none 0 0],.int .i64 0,.bool false] from AE hk] at HH;subst U;clear aa ab;refine eK ?_;refine cC rfl (HH.out _ Ag Ag) ?_;rintro _ b8 ⟨⟨⟩,ap⟩;revert O F E X;refine eY ap ?_;intro b9 O F E X;refine eK ?_;refine xA [_,_,_,_,_,_,_,_,_,_,_,_] ?_;intro ca cb aq;refine eI [_,_,_,_,_,_,_,_,_,_,_,_] aq ?_;intro cc ag ar bd be;revert O F E X;refine eE ar ?_;intro O F E X;refine eK ?_;refine C1 (xB [_,_,_,_,_,_,_,_,_,_,_,_]) (eS [_,_,_,_,_,_,_,_,_,_,_,_] O ?_);intro bf ah ai bg;revert ag F E X;refine eF ai ?_;intro ag F E X;refine eK ?_;refine CO rfl Ac rfl rfl rfl ah rfl rfl rfl ?_;exact ⟨rfl,X⟩
 rw [AE (fun h=>h hk)] at U;have cd:=aa 1;clear aa;have hT:QD Y = .tuple #[.agg #[str (Y.getD 1 []),.int .i64 (Dy Y 0),.int .i64 (Dy Y 1),.int .i64 (Dy Y 2),.int .i64 (Dy Y 3),.int .i64 (Dy Y 4),.slice none 0 0,.slice none 0 0,.int .u8 0,.int .i64 0,str [],.slice none 0 0],.int .i64 (Dy Y 5),.bool true]:=AU hk;rw [hT] at HH;obtain ⟨n,hn⟩:=Int.eq_ofNat_of_zero_le ab.1;rw [hn] at U ab HH;rw [Int.toNat_natCast] at U;have HK:=bA (fun w1=>YX c2 Ab n Ab w1);have au:=SO c2 n;have hb:0<=Dy Y 0/\0<=Dy Y 1:=⟨(RH _).1,(RH _).1⟩
 unfold Y0 at U;clear hT hk hn;generalize Y.getD 1 []=nm at *;generalize Dy Y 0=po at *;generalize Dy Y 1=fu at *;generalize Dy Y 2=bv at *;generalize Dy Y 3=bl at *;generalize Dy Y 4=bi at *;generalize ER c2 n=tk at *;obtain ⟨tx,rest,k3⟩:=tk;simp only at au U HK;refine eK ?_;refine cC rfl (HH.out _ Ag Ag) ?_;rintro _ ce ⟨⟨⟩,av⟩;revert O F E X;refine eY av ?_;intro cf O F E X;refine eK ?_;refine xA [_,_,_,_,_,_,_,_,_,_,_,_] ?_;intro cg ch aw;refine eI [_,_,_,_,_,_,_,_,_,_,_,_] aw ?_;intro ci N ax bh bj;revert O F E X;refine eE ax ?_;intro O F E X;refine eK ?_;refine cC rfl (HK.out _) ?_;rintro _ bk ⟨⟨⟩,aj⟩;revert N O F E X;refine eY aj ?_;intro bm N O F E X;refine C1 Mv (C1 Px (C1 Px (C1 Px (C1 Pa (C1 Pa (C1 Pa (cT (Aj ?_))))))));cases k3 with
 | false=>
  rw [AU rfl] at U;subst U;refine eK ?_;refine C1 (xB [_,_,_,_,_,_,_,_,_,_,_,_]) (eS [_,_,_,_,_,_,_,_,_,_,_,_] O ?_);intro cj ay az ck;revert N F E X;refine eF az ?_;intro N F E X;refine eK ?_;refine CO rfl Ac rfl rfl rfl ay rfl rfl rfl ?_;exact ⟨rfl,X⟩
 | true=>
 rw [AE Az] at U;have HP:=bA (fun w1 (h1:TabsF w1) (h2:Errs2 w1)=>Ro tx w1 Ab ⟨h1.t.sym⟩ h2.r);have ad:=(La tx).1;have ae:=Hl tx Ab;generalize Bf tx=pr at *;obtain ⟨g,off,er⟩:=pr;simp only at U ad ae;refine eK ?_;refine eQ rfl (HP.out _ Ag Ag) ?_;rintro _ bn ⟨bo,⟨bp,⟨bq,⟨br,⟨bs,⟨bt,⟨⟨⟩,⟨L,⟨M,⟨cl,ak⟩⟩⟩⟩⟩⟩⟩⟩⟩⟩;revert N O F E X;refine eY ak ?_;intro bu N O F E X;refine eK ?_;refine xA [_,_,_,_,_,_] ?_;intro bw bx V;refine FG [_,_,_,_,_,_] Ac rfl rfl rfl rfl rfl rfl V rfl ?_;intro bz V;have f:=V.blk;dsimp only at f;have al:=V.ext;have b0:=V.pos;have b2:=V.size;revert L M N O F E X;refine eE al ?_;intro L M N O F E X;refine C1 Pa (C1 Pa (cT (Aj ?_)));rcases (Decidable.em (er=0)).symm with he|he
 . rw [AU he] at U;subst U;refine eK ?_;refine C1 (xB [_,_,_,_,_,_,_,_,_,_,_,_]) (eS [_,_,_,_,_,_,_,_,_,_,_,_] O ?_);intro cm a0 a1 cn;revert f L M N F E X;refine eF a1 ?_;intro f L M N F E X;refine eK ?_;refine CO rfl Ac rfl rfl rfl a0 rfl rfl rfl ?_;exact ⟨rfl,X⟩
 subst he;rw [AE (fun h=>h rfl)] at U;have ac:=(ad rfl).1;have af:=ae rfl;clear ad ae;have HR:=bA (fun S va vc pa pc ma mc w1 (h1:TabsF w1) h2=>NE g S va vc pa pc ma mc w1 af h1.t h1.g h2);rw [AU ac,AU ac] at HR;have co:=Y1 ac;have HV:=bA (fun S va vc pa pc ma mc w1 h=>IE ⟨nm,po,fu,⟨bv,bl,bi⟩,g⟩ ⟨by simp only;omega,af,by simp only;omega⟩ S va vc pa pc ma mc w1 h);clear ac af;generalize a2:g.text=tg at *;refine cS (C1 Mv (C1 V2 (cT (Fa rfl (not_not_intro rfl) ?_))));refine eK ?_;refine cC rfl (HR.out _ _ _ _ _ _ _ _ Ag Ag) ?_;rintro _ cp ⟨⟨⟩,a3⟩;revert f N O F E X L M;refine eY a3 ?_;intro cq f N O F E X L M;refine C1 Mv (C1 Px (C1 Px (C1 Pa (C1 Pa (cT (Aj ?_))))));rcases (Decidable.em (tg=tx)).symm with hx|hx
 . rw [AU hx] at U;subst U;refine eK ?_;refine C1 (xB [_,_,_,_,_,_,_,_,_,_,_,_]) (eS [_,_,_,_,_,_,_,_,_,_,_,_] O ?_);intro cr a4 a5 cu;revert f N F E X L M;refine eF a5 ?_;intro f N F E X L M;refine eK ?_;refine CO rfl Ac rfl rfl rfl a4 rfl rfl rfl ?_;exact ⟨rfl,X⟩
 rw [AE (fun h=>h hx)] at U;subst hx;clear a2;unfold eP at HV;simp only at HV
 focus
  refine cS (C1 Mv (C1 V2 (C1 Mv (Jg (C1 Mv (Jg (C1 Mv (Jg (C1 V9 (C1 Wp (cT ?_)))))))))));refine Fa rfl (not_not_intro rfl) ?_;refine eK ?_;refine eV [_,_,_,_,_,_] [_,_,_,_,_,_,_,_,_,_,_,_] N ?_;intro cv Z a6 cw;revert f O F E X L M;refine eF a6 ?_;intro f O F E X L M;refine eK ?_;refine Bm [_,_,_,_,_,_,_,_,_,_,_,_] Ac rfl rfl rfl Z rfl rfl rfl (cC rfl (HV.out _ _ _ _ _ _ _ _ ⟨Ag,Ag,Ag⟩) ?_);rintro _ cx ⟨⟨⟩,a7⟩;revert Z f O F E X L M;refine eY a7 ?_;intro cy Z f O F E X L M;refine C1 Pt (cT ?_);refine Hp rfl (fun a8=>?_) (fun a8=>?_);rotate_left;refine As (Ai ?_);rotate_left
 . rw [AU (of_decide_eq_false Ag)] at U;subst U;refine cS (C1 (xB [_,_,_,_,_,_,_,_,_,_,_,_]) (eS [_,_,_,_,_,_,_,_,_,_,_,_] O ?_));intro cz a9 ba c0;revert Z f F E X L M;refine eF ba ?_;intro Z f F E X L M;refine eK ?_;refine CO rfl Ac rfl rfl rfl a9 rfl rfl rfl ?_;exact ⟨rfl,X⟩
 . rw [AE (fun h=>h (of_decide_eq_true Ag))] at U;subst U;refine cS (Bm [_,_,_,_,_,_,_,_,_,_,_,_] Ac rfl rfl rfl Z rfl rfl rfl (C1 Mv (eS [_,_,_,_,_,_,_,_,_,_,_,_] O ?_)));intro c4 bb bc c5;revert Z f F E X L M;refine eF bc ?_;intro Z f F E X L M;refine eK ?_;refine CO rfl Ac rfl rfl rfl bb rfl rfl rfl ?_;exact ⟨_,_,_,_,_,_,rfl,⟨PG.sits.wide Ag (fun b h=>by omega),PDsC.wide Ag (fun b h=>by omega),Ag⟩,X⟩
def RS (x y:lB) (r:List lB):Lib.join (x::y::r) [32]=x++32::Lib.join (y::r) [32]:=by
 rw [Lib.join_cons,Lib.join_cons];simp [Lib.joinTail]
def pre (acc:List Tok) (r:List Tok×Option Nat):List Tok×Option Nat:=match r.2 with
 | none=>(acc++r.1,none)
 | some p=>([],some p)
inductive Pc where
 | tk (t:lB):Pc
 | sp (s:lB):Pc
def toks:List Pc->Hg
 | []=>[]
 | .tk t::r=>t::toks r
 | .sp _::r=>toks r
structure TokT (t:lB):Prop where
 ne:t≠[]
 len:(AO t).2=t.length
 kind:(AO t).1=1\/(AO t).1=2\/(AO t).1=3
structure Adj (t:lB) (c:UInt8):Prop where
 word:(AO t).1=1->Cs c=false
 num:(AO t).1=2->Cw c=false
 sign:(AO t).1=3->c≠61/\c≠62/\c≠38/\c≠124
def wf:Option lB->List Pc->Prop
 | _,[]=>True
 | p,.sp s::r=>(∀c∈s,Hr c=true)/\wf (if s.isEmpty then p else none) r
 | p,.tk t::r=>TokT t/\(∀t0∈p,∀c∈t.head?,Adj t0 c)/\wf (some t) r
def VZ {n:Int} (h:0<=n):Lib.itoa n=Lib.decDigits n.toNat:=by unfold Lib.itoa;rw [AE Ab]
def V0 (e:EX) (n:Int):KX e n=[[101,120,101,114,99,105,115,101],e.name,[112,111,105,110,116,115],Lib.itoa e.points,[102,117,101,108],Lib.itoa e.fuel,[118,97,108,117,101],Lib.itoa e.box.v,[108,101,110,103,116,104],Lib.itoa e.box.l,[105,110,112,117,116],Lib.itoa e.box.i,[108,105,110,101,115],Lib.itoa n]:=rfl
def RT (e:EX) (hw:e.wf) (S:nP) (va:oA) (vc:Nat) (pa:oA) (pc:Nat) (ma:oA) (mc:Nat) (w:wD) :
 Calls prog 28 #[.agg (e.cells va vc pa pc ma mc).toArray] w fun r w'=>r = .returned (.bool (decide e.num))/\Ext w w':=by
 have X:=dI w;have f:=bA (fun w1=>Xn e.name hw.name w1);clear hw;by_cases h:e.num
 . rw [decide_eq_true h];unfold EX.num at h;unfold eP;obtain ⟨U,V,Y,⟨bv,bl,bi⟩,g⟩:=e;simp only at f h ⊢;obtain ⟨E,⟨o2,o3⟩,o4,o5⟩:=h;rw [E] at f;refine Af func28 ntmps28 rfl rfl ?_;refine cS (eB [_,_,_,_,_,_,_,_,_,_,_,_] ?_);intro b1 w2 h4 x5 p6 z7;have X:=X.ext x5;refine eK ?_;refine cC rfl (f.out _) ?_;rintro _ w9 ⟨⟨⟩,x8⟩;revert h4 X;refine eY x8 ?_;intro af h4 X;refine eK ?_;refine xR ?_;exact ⟨AI (decide_eq_true Ab),X⟩
 . rw [decide_eq_false h];unfold EX.num at h;unfold eP;obtain ⟨U,V,Y,⟨bv,bl,bi⟩,g⟩:=e;simp only at f h ⊢;rcases (show A9 U=false\/A9 U=true by cases A9 U<;>simp) with E|E
   . rw [E] at f;refine Af func28 ntmps28 rfl rfl ?_;refine cS (eB [_,_,_,_,_,_,_,_,_,_,_,_] ?_);intro ag ah F Z ai aj;have X:=X.ext Z;refine eK ?_;refine cC rfl (f.out _) ?_;rintro _ ak ⟨⟨⟩,aa⟩;revert F X;refine eY aa ?_;intro ad F X;refine eK ?_;refine xR ?_;exact ⟨rfl,X⟩
   . have h1 : ¬((1<=V/\V<=1000)/\0<=Y/\Y<=1000000):=fun k=>h ⟨E,k⟩
     rw [E] at f;refine Af func28 ntmps28 rfl rfl ?_
     focus
      refine cS (eB [_,_,_,_,_,_,_,_,_,_,_,_] ?_);intro al am L ab an ao;have X:=X.ext ab;refine eK ?_;refine cC rfl (f.out _) ?_;rintro _ ap ⟨⟨⟩,ac⟩;revert L X;refine eY ac ?_;intro ae L X;refine eK ?_;refine Cm rfl rfl rfl (fun M=>?_) (fun M=>?_);refine eK ?_;refine Cm rfl rfl rfl (fun N=>?_) (fun N=>?_);refine eK ?_;refine Cm rfl rfl rfl (fun O=>?_) (fun O=>?_);refine eK ?_;refine xR ?_;rotate_left;refine eK ?_;refine xR ?_;rotate_left;refine eK ?_;refine xR ?_;rotate_left;refine eK ?_;refine xR ?_;rotate_left
     all_goals first|exact ⟨rfl,X⟩|exact absurd Ab h1|exact ⟨AI (decide_eq_false Ab),X⟩
def I7 (e:EX) (n:Int) (j:Nat):lB:=[101,120,101,114,99,105,115,101,32]++e.name++((Dn e n).take j).flatMap fun p=>32::(p.1++32::Lib.itoa p.2)
def Ue (e:EX) (n:Int) (j:Nat) (f:j<6):I7 e n (j+1)=I7 e n j++[32]++hwords.getD j []++[32]++Lib.itoa (((Dn e n).map Prod.snd).getD j 0):=by
 unfold I7;have h:j<(Dn e n).length:=by rw [IF];exact f
 rw [bE h,List.flatMap_append];rcases (show j=0\/j=1\/j=2\/j=3\/j=4\/j=5 by omega) with rfl|rfl|rfl|rfl|rfl|rfl<;>simp [Dn,hwords]
def QG (e:EX) (n:Int):I7 e n 6++[10]=KY e n:=by
 unfold I7 KY;rw [V0];simp only [RS,Lib.join_one];simp [Dn]
def Wa (e:EX) (n:Int) (hr:e.rng) (hn:0<=n/\n<=9223372036854775807) (j:Nat):(I7 e n j).length<=e.name.length+1000:=by
 have h1:=NF e n hr hn;have h2:=congrArg List.length (QG e n);rw [aU] at h2;have h3:(I7 e n j).length<=(I7 e n 6).length:=by
  unfold I7;have h6:(Dn e n).take 6=Dn e n:=List.take_of_length_le (by rw [IF];exact bJ _);rw [h6]
  conv=>rhs;rw [<-cL j (Dn e n),List.flatMap_append]
  simp only [aU];omega
 omega
def QH {s:lB} {p:Nat} {x:UInt8} (h:s[p]? = some x):Lib.countByte (s.take (p+1)) 10=Lib.countByte (s.take p) 10+if x.toNat=10 then 1 else 0:=by
 have E:p<s.length:=(List.getElem?_eq_some_iff.1 h).1;rw [aY E] at h;rw [bE E,bO h];unfold Lib.countByte;rw [List.count_append];by_cases f:x.toNat=10
 . obtain rfl:x=10:=UInt8.toNat_inj.1 f;rfl
 . rw [AE f];have:List.count 10 [x]=0:=List.count_eq_zero.2 (fun e=>f (by rw [<-dG.1 e];rfl));rw [this]
def Wb {w:wD} {b:Nat} {l:List Int} (h:Blk w b (l.map (.int .i64 ·))) (i:Nat) (E:i<l.length):Row w ⟨b,0+i*1,none⟩ [.int .i64 (l.getD i 0)]:=fun k v f=>by
 match k,f with
 | 0,f=>
  simp only [List.getElem?_cons_zero,bK] at f;subst f;have:=h.row.at (i:=i) (v:=.int .i64 (l.getD i 0)) (by rw [List.getElem?_map,aY E,dC,aY E];rfl);simpa [cU] using this
def K4 (e:EX) (n:Int):List Int:=[e.points,e.fuel,e.box.v,e.box.l,e.box.i,n]
set_option maxHeartbeats 8000000 in
def XK (e:EX) (hw:e.wf) (hv:e.valid) (S:nP) (va:oA) (vc:Nat) (pa:oA) (pc:Nat) (ma:oA) (mc:Nat) (w:wD) (hs:e.sits S w va pa ma vc) :
 Calls prog 36 #[.agg (e.cells va vc pa pc ma mc).toArray] w fun r w'=>r = .returned (str e.text)/\Ext w w':=by
 have X:=dI w;have hg:=hs.ltA.g;clear hs;have HP:=bA (fun Z h=>RD e.g (· < w.heap.size) va vc pa pc ma mc Z hw.g hv.2.1.1 h);have hr:=EX.valid_rng hv;have a1:=EX.valid_name hv;have a2:=PG.text_len e.g hw.g hv.2.1.1;have a3:=Io e.g.text;have hb:=MC hv.2.2.2.1;unfold BoxV.ok at hb;obtain ⟨⟨-,a4,a5⟩,-⟩:=hv;clear hw;have ah:e.text=I7 e (Lib.countByte e.g.text 10:Nat) 6++[10]++e.g.text:=by rw [QG];rfl
 rw [ah];have HO:=bA (fun j hj=>Ue e (Lib.countByte e.g.text 10:Nat) j hj);have HL:=bA (fun j=>Wa e (Lib.countByte e.g.text 10:Nat) hr ⟨Ab,Ab⟩ j);have HD:Hid (∀(n:Int) Z,0<=n/\n<=9223372036854775807->Calls prog 68 #[.int .i64 n] Z fun e w'=>e = .returned (str (Lib.itoa n))/\Ext Z w'):=bA fun n Z h=>by
  rw [VZ h.1];exact Km (n.toNat+1) n Z Ab h.1 h.2
 have h0:I7 e (Lib.countByte e.g.text 10:Nat) 0=[101,120,101,114,99,105,115,101,32]++e.name:=by simp [I7]
 have HB:Hid (∀j,j<6->0<=(K4 e (Lib.countByte e.g.text 10:Nat)).getD j 0/\(K4 e (Lib.countByte e.g.text 10:Nat)).getD j 0<=9223372036854775807):=bA fun j hj=>by
  rcases (show j=0\/j=1\/j=2\/j=3\/j=4\/j=5 by omega) with rfl|rfl|rfl|rfl|rfl|rfl<;>simp [K4]<;>omega
 clear ah hr;have ac:(Dn e (Lib.countByte e.g.text 10:Nat)).map Prod.snd=K4 e (Lib.countByte e.g.text 10:Nat):=rfl;rw [ac] at HO;clear ac;unfold eP;generalize a6:e.g.text=O at *;refine Af func36 ntmps36 rfl rfl ?_;refine cS (eB [_,_,_,_,_,_,_,_,_,_,_,_] ?_);intro b1 w2 Y x5 p6 z7;revert X hg;refine eE x5 ?_;intro X hg;refine eK ?_;refine cC rfl (HP.out _ Ag) ?_;rintro _ w9 ⟨⟨⟩,x8⟩;revert Y X hg;refine eY x8 ?_;intro a7 Y X hg;refine C1 Pa (cN (C1 Pa (cT (Aj (cS (C1 Pa (cT ?_)))))));clear HP hg;have L : ∀j,j<=O.length->Lib.countByte (O.take j) 10<=1000000000000:=fun j hj=>by
  have:=Io (O.take j);rw [cH] at this;omega
 refine Ar ?_;refine AJ (ι:=Nat) (fun j=>[(1,.pointer (some ⟨b1,0,none⟩)),(3,str O),(4,.int .i64 (Lib.countByte (O.take j) 10:Nat)),(5,.int .i64 j)])
  (fun j w'=>j<=O.length/\Blk w' b1 [str e.name,.int .i64 e.points,.int .i64 e.fuel,.int .i64 e.box.v,.int .i64 e.box.l,.int .i64 e.box.i,.slice va e.g.vars.length vc,.slice pa e.g.procs.length pc,.int .u8 e.g.main.kind,.int .i64 e.g.main.num,str e.g.main.name,.slice ma e.g.main.kids.length mc]/\Ext w w') (fun j=>O.length-j) 0 sB ⟨bI _,Y,X⟩ ?_
 clear Y X;rintro j Z ⟨hj,Y,X⟩;by_cases V:j<O.length
 . have an:O[j]? = some O[j]:=aY V;have M:=QH an;have a8:=L j hj;clear HO HL HD HB L;generalize O[j]=x at *;have a9:=x.toNat_lt;by_cases hx:x.toNat=10
   . rw [AU hx] at M;refine eK ?_;refine C1 (FE Ac rfl rfl rfl Ab Ag) (C1 V1 (cT (S1 (Ad (C1 Mv (C1 V7 (C1 Pa (Ah (Ae (Ai (Ad ?_)))))))))));refine C1 Mv (C1 V7 (C1 Pa (Ah ?_)));exact Aw (j+1) (by rw [M];(refine Ak rfl ?_;refine Ak rfl ?_;refine Ak rfl ?_;refine Ak rfl ?_;exact AY)) ⟨Ab,Y,X⟩ Ab
   . rw [AE hx,Nat.add_zero] at M;refine eK ?_;refine C1 (FE Ac rfl rfl rfl Ab Ag) (C1 V1 (cT (C9 (As (Ae (Ai (Ad (C1 Mv (C1 V7 (C1 Pa (Ah ?_)))))))))));exact Aw (j+1) (by rw [M];(refine Ak rfl ?_;refine Ak rfl ?_;refine Ak rfl ?_;refine Ak rfl ?_;exact AY)) ⟨Ab,Y,X⟩ Ab
 obtain rfl:j=O.length:=by omega
 rw [bH];clear L;generalize hN:Lib.countByte O 10=N at *;refine eK ?_;refine C1 (At rfl rfl (by simp only [aV,aX];omega)) ?_;refine eK ?_;refine Au (xS [_,_,_,_,_,_]) rfl ?_ aFh;rintro _ ba ⟨aa,rfl,ab,bb⟩;have af:=ab.blk;have ao:=ab.ext;have bc:=ab.pos;have bd:=ab.size;revert Y X;refine eE ao ?_;intro Y X;refine eK ?_;refine Au (xS [_,_,_,_,_,_]) rfl ?_ aFh;rintro _ ad ⟨ag,rfl,U,ay⟩;have ai:=U.blk;have aj:=U.ext;have az:=U.pos;have a0:=U.size;revert af Y X;refine eE aj ?_;intro af Y X;refine C1 Pa (cT (Aj (cS (C1 Pa (cT ?_)))));have f:Blk ad aa (hwords.map str):=af;have E:Blk ad ag ((K4 e N).map (.int .i64 ·)):=ai;refine Ar ?_;refine AJ (ι:=Nat) (fun j=>[(3,str O),(6,str (I7 e N j)),(7,.slice (some ⟨aa,0,none⟩) 6 6),(8,.slice (some ⟨ag,0,none⟩) 6 6),(9,.int .i64 j)])
  (fun j w'=>j<=6/\Blk w' aa (hwords.map str)/\Blk w' ag ((K4 e N).map (.int .i64 ·))/\Ext w w') (fun j=>6-j) 0 (by rw [h0];(refine Ak rfl ?_;refine Ak rfl ?_;refine Ak rfl ?_;refine Ak rfl ?_;refine Ak rfl ?_;exact AY)) ⟨bI _,f,E,X⟩ ?_
 clear f E X h0;rintro j w3 ⟨hj,f,E,X⟩;have be:=HL.out j;by_cases V:j<6
 . have ra:Row w3 ⟨aa,0+j*1,none⟩ [str (hwords.getD j [])]:=by rw [show 0+j*1=j by omega];exact GK f j V
   have rb:=Wb E j V;have M:=HO.out j V;have ap:=HB.out j V;have ae:=HL.out (j+1);rw [M] at ae;have aq:=bA (fun Z=>HD.out ((K4 e N).getD j 0) Z ap);clear HO HL HB HD;generalize hwords.getD j []=wd at *;generalize (K4 e N).getD j 0=nn at *;generalize I7 e N j=ar at *;simp only [aU,aV,aX] at ae
   focus
    refine eK ?_;refine AC (fun wz=>Ext w3 wz) 13 (.pure 0 (.pure 1 (.pure 2 (.pure 3 (.pure 4 (.pure 5 (.pure 6 (.pure 7 (.pure 8 (.pure 9 (.pure 10 (.pure 11 (.fork 12 .tail .none))))))))))))) mixed Bl (Al (Aa (Aa (Al (Aa An))))) ?_;intro au ak _;have F:(fun wz=>Ext w3 wz) au:=ak;simp only at F;have av:=f;have aw:=E;have al:=ra;have am:=rb;revert f E X ra rb;refine eY ak ?_;intro bf f E X ra rb;refine ⟨F,?_⟩;refine Tq rfl Mv (Tq rfl (At rfl rfl (by simp only [aV,aX];omega)) ?_);refine eT ?_;refine Tq rfl (Ax Ac rfl rfl rfl (fun wz hz=>fC (dZ al hz) rfl)) (Tq rfl (At rfl rfl (by simp only [aU,aV,aX];omega)) (Tq rfl (At rfl rfl (by simp only [aU,aV,aX];omega)) ?_));refine eT ?_;refine Tq rfl (Ax Ac rfl rfl rfl (fun wz hz=>fC (dZ am hz) rfl)) ?_;refine tC rfl rfl (aq.out _) ?_;rintro _ bg ⟨⟨⟩,ax⟩;revert F f E X ra rb;refine eY ax ?_;intro bh F f E X ra rb;refine ⟨F,?_⟩;refine AF rfl (C1 (At rfl rfl (by simp only [aU,aV,aX];omega)) (C1 Pa (Ah (Ae (Ai (Ad (C1 Mv (C1 V7 (C1 Pa (Ah ?_))))))))));rotate_left
   exact Aw (j+1) (by rw [M];(refine Ak rfl ?_;refine Ak rfl ?_;refine Ak rfl ?_;refine Ak rfl ?_;refine Ak rfl ?_;exact AY)) ⟨Ab,f,E,X⟩ Ab
 obtain rfl:j=6:=by omega
 clear HO HL HB HD;generalize I7 e N 6=ar at *;refine eK ?_;refine C1 (At rfl rfl (by simp only [aV,aX];omega)) (C1 Mv (C1 (At rfl rfl (by simp only [aU,aV,aX];omega)) ?_));refine eK ?_;refine xR ?_;exact ⟨rfl,X⟩
def QI (e:EX) (hw:e.wf) (S:nP) (va:oA) (vc:Nat) (pa:oA) (pc:Nat) (ma:oA) (mc:Nat) (w:wD) (hs:e.sits S w va pa ma vc) :
 Calls prog 14 #[.agg (e.cells va vc pa pc ma mc).toArray] w fun r w'=>r = .returned (.bool (decide e.valid))/\Ext w w':=by
 have X:=dI w;have HN:=bA (fun w1=>RT e hw (· < w.heap.size) va vc pa pc ma mc w1);obtain ⟨b0,aa,ae⟩:=hw;obtain ⟨F,E,ar⟩:=hs.ltA;clear hs;have HC:=bA (fun w1 h1 h2=>SE aa (· < w.heap.size) va vc pa pc ma mc w1 h1 h2 ar);have HE:=bA (fun w1 h=>SD e.g.vars ae e.box (· < w.heap.size) va vc w1 h);obtain ⟨n,k,hr⟩ : ∃n k,FN e.g.vars e.box=(n,k):=⟨_,_,rfl⟩;rw [hr] at HE;have ab:e.valid↔e.num/\e.g.acc/\e.g.pinv.acc/\k=0/\n<=65536:=by unfold EX.valid;rw [hr]
 obtain ⟨dv,ac⟩ : ∃dv,dv=decide e.valid:=⟨_,rfl⟩
 rw [<-ac];have hd:dv=true↔e.num/\e.g.acc/\e.g.pinv.acc/\k=0/\n<=65536:=by rw [ac,decide_eq_true_iff];exact ab
 have M : ∀ {p:Prop},(e.num/\e.g.acc/\e.g.pinv.acc/\k=0/\n<=65536->p) -> ¬p->dv=false:=fun h E=>Bool.eq_false_iff.2 (fun q=>E (h (hd.1 q)))
 clear ac ab hr;by_cases h1:e.num
 . rw [decide_eq_true h1] at HN;have f:=F.vars;unfold eP at HN ⊢;refine Af func14 ntmps14 rfl rfl ?_
   focus
    refine cS (eB [_,_,_,_,_,_,_,_,_,_,_,_] ?_);intro b1 w2 L x5 p6 z7;revert X F E f;refine eE x5 ?_;intro X F E f;refine eK ?_;refine Bm [_,_,_,_,_,_,_,_,_,_,_,_] Ac rfl rfl rfl L rfl rfl rfl (cC rfl (HN.out _) ?_);rintro _ w9 ⟨⟨⟩,x8⟩;revert L X F E f;refine eY x8 ?_;intro b2 L X F E f;refine eK ?_;refine cC rfl (HC.out _ Ag Ag) ?_;rintro _ b3 ⟨⟨⟩,au⟩;revert L X F E f;refine eY au ?_;intro b4 L X F E f;refine A2 rfl rfl rfl (rfl) (C1 Pt (C1 (By rfl rfl rfl) (cT ?_)));refine Hp rfl (fun av=>?_) (fun av=>?_);refine eK ?_;refine xR ?_;rotate_left;refine As (Ai ?_);rotate_left
   . rw [M (fun h=>h.2.1) (of_decide_eq_false Ag)];exact ⟨rfl,X⟩
   . have h2:e.g.acc:=of_decide_eq_true Ag;have HI:=bA (fun w1 h=>Id aa h2.1 (· < w.heap.size) va vc pa pc ma mc w1 h);rw [<-PG.pinv_eq] at HI;have HD:=bA (fun va vc pa pc ma mc w1 S h1 aw h3=>SE (PG.pinv_wf aa h2.1) S va vc pa pc ma mc w1 h1 aw h3);clear aa HC HN;by_cases h3:e.g.pinv.acc
     . rw [decide_eq_true h3] at HD;have af:k=0->dv=decide (n<=65536):=fun hk=>by
        rw [Bool.eq_iff_iff,decide_eq_true_iff,hd];exact ⟨fun h=>h.2.2.2.2,fun h=>⟨h1,h2,h3,hk,h⟩⟩
       have ax:k≠0->dv=false:=fun hk=>M (fun h=>h.2.2.2.1) hk
       clear M hd h1 h2 h3;generalize e.g.pinv=u at *;simp only at HE
       focus
        refine eK ?_;refine Au (Bb Bl rfl (HI.out _ Ag) (fun _ _ ⟨_,_,_,_,_,_,h⟩=>⟨_,h.1⟩)) rfl ?_ aFh;rintro _ a0 ⟨a1,⟨a2,⟨a3,⟨a4,⟨a5,⟨a6,⟨⟨⟩,⟨U,⟨V,⟨b5,ag⟩⟩⟩⟩⟩⟩⟩⟩⟩⟩;revert L X F E f;refine eY ag ?_;intro a7 L X F E f;refine eK ?_;refine xA [_,_,_,_,_,_] ?_;intro a8 a9 ah;refine eI [_,_,_,_,_,_] ah ?_;intro ba N ai bb bc;revert U V L X F E f;refine eE ai ?_;intro U V L X F E f;refine eK ?_;refine cC rfl (HE.out _ Ag) ?_;rintro _ bd ⟨⟨⟩,aj⟩;revert N U V L X F E f;refine eY aj ?_;intro be N U V L X F E f;refine eK ?_;refine cC rfl (HD.out _ _ _ _ _ _ _ _ Ag Ag Ag) ?_;rintro _ bf ⟨⟨⟩,ak⟩;revert N U V L X F E f;refine eY ak ?_;intro bg N U V L X F E f;refine eK ?_;refine Cm rfl rfl rfl (fun al=>?_) (fun al=>?_);refine eK ?_;refine xR ?_;rotate_left;refine eK ?_;refine xR ?_;rotate_left
       all_goals first|exact ⟨AI (af Ag).symm,X⟩|exact ⟨AI (ax Ag).symm,X⟩
     . rw [decide_eq_false h3] at HD;rw [M (fun h=>h.2.2.1) h3];clear M hd h1 h2 h3;generalize e.g.pinv=u at *;simp only at HE;refine eK ?_;refine Au (Bb Bl rfl (HI.out _ Ag) (fun _ _ ⟨_,_,_,_,_,_,h⟩=>⟨_,h.1⟩)) rfl ?_ aFh;rintro _ bh ⟨bi,⟨bj,⟨bk,⟨bl,⟨bm,⟨bn,⟨⟨⟩,⟨Y,⟨Z,⟨b6,am⟩⟩⟩⟩⟩⟩⟩⟩⟩⟩;revert L X F E f;refine eY am ?_;intro bo L X F E f;refine eK ?_;refine xA [_,_,_,_,_,_] ?_;intro bp bq an;refine eI [_,_,_,_,_,_] an ?_;intro br O ao bs bt;revert Y Z L X F E f;refine eE ao ?_;intro Y Z L X F E f;refine eK ?_;refine cC rfl (HE.out _ Ag) ?_;rintro _ bu ⟨⟨⟩,ap⟩;revert O Y Z L X F E f;refine eY ap ?_;intro bv O Y Z L X F E f;refine eK ?_;refine cC rfl (HD.out _ _ _ _ _ _ _ _ Ag Ag Ag) ?_;rintro _ bw ⟨⟨⟩,aq⟩;revert O Y Z L X F E f;refine eY aq ?_;intro bx O Y Z L X F E f;refine eK ?_;refine xR ?_;all_goals exact ⟨rfl,X⟩
 . rw [decide_eq_false h1] at HN;rw [M (fun h=>h.1) h1];clear M hd HC HE;unfold eP at HN ⊢;refine Af func14 ntmps14 rfl rfl ?_;refine cS (eB [_,_,_,_,_,_,_,_,_,_,_,_] ?_);intro b7 b8 ad ay b9 ca;revert X F E;refine eE ay ?_;intro X F E;refine eK ?_;refine Bm [_,_,_,_,_,_,_,_,_,_,_,_] Ac rfl rfl rfl ad rfl rfl rfl (cC rfl (HN.out _) ?_);rintro _ cb ⟨⟨⟩,az⟩;revert ad X F E;refine eY az ?_;intro bz ad X F E;refine eK ?_;refine xR ?_;exact ⟨rfl,X⟩
set_option maxHeartbeats 8000000 in
def Uf (l:List EX) (hw : ∀e∈l,e.wf) (S:nP) (a:oA) (c:Nat) (hl:l.length<=1000000) (w:wD) (E:EXs S w l a) :
 Calls prog 17 #[.slice a l.length c] w fun r w'=>r = .returned (.tuple #[str (Dj l).1,.int .i64 (Dj l).2])/\Ext w w':=by
 have X:=dI w;have E:=E.ltA;have HW:=bA hw;clear hw;refine Af func17 ntmps17 rfl rfl ?_
 focus
  refine eK ?_;refine AH rfl (fun c1=>?_) (fun c1=>?_);refine eK ?_;refine xT ?_;rotate_left;refine As (Ai (Aj (cS (C1 Mv (C1 Pz (C1 Mv (cT ?_)))))));rotate_left
 . rw [K0 Ab];exact ⟨rfl,X⟩
 have L : ¬ 100<l.length:=by omega
 refine Ar ?_;refine AJ (ι:=Nat) (fun j=>[(0,.slice a l.length c),(12,.int .i64 l.length),(13,.int .i64 j)])
  (fun j w'=>j<=l.length/\(∀e∈l.take j,e.valid)/\EXs (· < w.heap.size) w' l a/\Ext w w') (fun j=>l.length-j) 0 sB ⟨bI _,(fun e M=>by simp at M),E,X⟩ ?_
 clear E X;rintro j w1 ⟨hj,hq,E,X⟩;have HQ:=bA hq;clear hq;by_cases F:j<l.length
 . obtain ⟨kb,ko,rfl,-,hk⟩:=eW E Ab;obtain ⟨va,vc,pa,pc,ma,mc,U,sx⟩:=hk j _ (aY F);have hm:=bD F;have O:=HW.out _ hm;have hn:l[j].valid -> ∀e∈l.take (j+1),e.valid:=fun h e M=>by
    rw [bE F,List.mem_append,dG] at M;rcases M with M|rfl
    . exact HQ.out e M
    . exact h
   have ai : ¬l[j].valid->Dj l=([],3):=fun h=>MA L _ hm h
   clear hk hm;generalize l[j]=e at *;have HV:=bA (fun w1 h=>QI e O (· < w.heap.size) va vc pa pc ma mc w1 h);clear O;unfold eP at U HV
   focus
    refine eK ?_;refine cC rfl (HV.out _ Ag) ?_;rintro _ av ⟨⟨⟩,aj⟩;revert X E U sx;refine eY aj ?_;intro aw X E U sx;refine C1 Pt (cT ?_);refine Hp rfl (fun ak=>?_) (fun ak=>?_);refine eK ?_;refine xT ?_;rotate_left;refine As (Ae (Ai (Ad (C1 V7 (C1 Mv (Ah ?_))))));rotate_left
   . rw [ai (of_decide_eq_false Ag)];exact ⟨rfl,X⟩
   . exact Aw (j+1) sB ⟨Ab,hn (of_decide_eq_true Ag),Ag,X⟩ Ab
 obtain rfl:j=l.length:=by omega
 have V : ∀e∈l,e.valid:=by have:=HQ.out;rwa [bH] at this
 clear HQ;have HA:=bA V;have ad : ∀j,(Ec (l.take j)).length<=100000000200000:=fun j=>by
  have h1 : ∀m:List EX,(∀e∈m,e∈l)->(Ec m).length<=m.length*1000000002000:=fun m=>by
   induction m with
   | nil=>intro _;simp [Ec]
   | cons e m ih=>
    intro h;have k1:=ih (fun x hx=>h x (List.mem_cons_of_mem _ hx));have k2:=EX.text_le (HW.out e (h e Bd)) (V e (h e Bd));have k3:Ec (e::m)=e.text++Ec m:=rfl;rw [k3,aU,aV,Nat.add_mul];omega
  have h2:=h1 (l.take j) (fun e M=>List.mem_of_mem_take M);have h3:(l.take j).length<=100:=by rw [cH];omega
  have h4:(l.take j).length*1000000002000<=100*1000000002000:=Nat.mul_le_mul_right _ h3;omega
 have Y:=bA ad;clear V ad;refine cS (C1 V3 (cT (Aj (C9 (CB (AG (AG (A8 (Ai (cS (C1 Pa ?_)))))))))));refine cT (Aj (cS (C1 Mv (C1 Pz (C1 Mv (cT ?_))))));refine Ar ?_;refine AJ (ι:=Nat) (fun i=>[(0,.slice a l.length c),(5,str (Ec (l.take i))),(24,.int .i64 l.length),(25,.int .i64 i)])
  (fun i w'=>i<=l.length/\(∀k,k<i -> ∀e,l[k]? = some e->Fi (l.take k) e.name=false)/\EXs (· < w.heap.size) w' l a/\Ext w w') (fun i=>l.length-i) 0 sB ⟨bI _,(fun k h=>absurd h Ab),E,X⟩ ?_
 clear E X;rintro i w2 ⟨hi,hq,E,X⟩;have HQ:=bA hq;clear hq;have al:=Y.out i;by_cases F:i<l.length
 . have ab:=NG F;have ae:=Y.out (i+1);rw [ab,aU] at ae;have hm:=bD F;have hv:=HA.out _ hm;have O:=HW.out _ hm;clear Y;refine cS (C1 V3 (cT (Aj (S1 (As (Ai (Aj (Ar (cS (C1 Mv (C1 Pa ?_)))))))))));refine cT (Aj (cS (C1 Mv (C1 Mv (cT ?_)))));refine Ar ?_;refine AJ (ι:=Nat) (fun k=>[(0,.slice a l.length c),(5,str (Ec (l.take i))),(6,.int .i64 i),(24,.int .i64 l.length),(25,.int .i64 i),(28,.int .i64 i),(29,.int .i64 k)])
    (fun k w'=>k<=i/\Fi (l.take k) l[i].name=false/\EXs (· < w.heap.size) w' l a/\Ext w w') (fun k=>i-k) 0 sB ⟨bI _,rfl,E,X⟩ ?_
   clear E X;rintro k w3 ⟨hk,Z,E,X⟩;obtain ⟨kb,ko,rfl,-,N⟩:=eW E Ab;obtain ⟨va,vc,pa,pc,ma,mc,U,sx⟩:=N i _ (aY F);by_cases ax:k<i
   . obtain ⟨ay,az,a0,a1,a2,a3,ry,-⟩:=N k _ (aY Ab);have hn:l[k].name≠l[i].name->Fi (l.take (k+1)) l[i].name=false:=fun h=>by
      unfold Fi at Z ⊢;rw [bE (show k<l.length by omega),List.any_append,Z];simpa using h
     have hd:l[k].name=l[i].name->Dj l=([],22):=fun h=>by
      refine MB L HA.out ⟨i,F,_,aY F,?_⟩;unfold Fi;rw [List.any_eq_true];exact ⟨l[k],List.mem_take_iff_getElem.2 ⟨k,Ab,rfl⟩,by simpa using h⟩
     clear N ab hv O hm;generalize l[i]=e at *;generalize l[k]=f at *;unfold eP at U ry
     focus
      refine eK ?_;refine AC (fun wz=>Ext w3 wz) 10 (.pure 0 (.pure 1 (.pure 2 (.pure 3 (.pure 4 (.pure 5 (.pure 6 (.pure 7 (.pure 8 (.pure 9 .tail)))))))))) mixed Bl (Aa (Al (Aa (Aa (Al (Aa (Al (Aa (Aa (Al (Aa An))))))))))) ?_;intro am af _;have aa:(fun wz=>Ext w3 wz) am:=af;simp only at aa;have ar:=E;have ag:=U;have au:=sx;have ah:=ry;revert X E U sx ry;refine eY af ?_;intro a4 X E U sx ry;refine ⟨aa,?_⟩;refine eT ?_;refine Tq rfl (Ax Ac rfl rfl rfl (fun wz hz=>fC (dZ ah hz) rfl)) ?_;refine eT ?_;refine Tq rfl (Ax Ac rfl rfl rfl (fun wz hz=>fC (dZ ag hz) rfl)) ?_;refine AF rfl ?_;refine eK ?_;refine AH rfl (fun an=>?_) (fun an=>?_);refine eK ?_;refine xT ?_;rotate_left;refine As (Ae (Ai (Ad (C1 V7 (C1 Mv (Ah ?_))))));rotate_left
     . rw [hd Ag];exact ⟨rfl,X⟩
     . exact Aw (k+1) sB ⟨Ab,hn Ag,E,X⟩ Ab
   . obtain rfl:k=i:=by omega
     have hn : ∀j,j<k+1 -> ∀e,l[j]? = some e->Fi (l.take j) e.name=false:=fun j hj e M=>by
      rcases bQ j k with h1|h1
      . exact HQ.out j h1 e M
      . obtain rfl:j=k:=by omega
        rw [aY F] at M;rw [<-bO M];exact Z
     clear N hm HQ Z;have HN:=bA hn;clear hn;generalize l[k]=e at *;have HT:=bA (fun w1 h=>XK e O hv (· < w.heap.size) va vc pa pc ma mc w1 h);clear O hv;generalize Ec (l.take k)=ao at *;unfold eP at U HT;refine eK ?_;refine cC rfl (HT.out _ Ag) ?_;rintro _ a5 ⟨⟨⟩,ap⟩;revert X E U sx;refine eY ap ?_;intro a6 X E U sx;refine C1 (At rfl rfl Ab) (C1 Pa (Ah (Ae (Ai (Ad (C1 V7 (C1 Mv (Ah ?_))))))));exact Aw (k+1) (by rw [ab];(refine Ak rfl ?_;refine Ak rfl ?_;refine Ak rfl ?_;refine Ak rfl ?_;exact AY)) ⟨Ab,HN.out,E,X⟩ Ab
 obtain rfl:i=l.length:=by omega
 rw [bH] at al ⊢;have ac : ¬QA l:=fun ⟨i,hi,e,M,h⟩=>by rw [HQ.out i hi e M] at h;cases h
 have hg:65536<(Ec l).length->Dj l=([],5):=fun h=>JR L HA.out ac h
 have ho : ¬ 65536<(Ec l).length->Dj l=(Ec l,0):=fun h=>Ks L HA.out ac h
 clear HQ Y ac HA HW;generalize Ec l=ao at *
 focus
  refine eK ?_;refine AH rfl (fun aq=>?_) (fun aq=>?_);refine eK ?_;refine xT ?_;rotate_left;refine eK ?_;refine xT ?_;rotate_left
 . rw [hg Ab];exact ⟨rfl,X⟩
 . rw [ho Ab];exact ⟨rfl,X⟩
def OwnL.exs {w:wD} {B e:Nat} {a:oA} {len cap:Nat} {xs:List EX} {S:nP} (h:OwnL Fy w B e (.slice a len cap) xs) (E : ∀b,B<=b->S b):EXs S w xs a:=by
 by_cases F:xs=[]
 . exact bC F
 . obtain ⟨g,L,M,N,f⟩:=h.rows F;simp only [bZ] at M;obtain ⟨rfl,-,-⟩:=M;refine bF ⟨g,0,rfl,E g N,fun i x O=>?_⟩;obtain ⟨cs,U,V,X,Y,Z,ma,mc,rfl,h2⟩:=f i x O;exact ⟨V,X,Y,Z,ma,mc,by simpa [Fy] using U,h2.wide (fun b hb=>E b hb.1)⟩
def ReadOk (x:EX) (rest:lB) (w:wD):Ending->wD->Prop:=fun e w'=> ∃va vc pa pc ma mc,e = .returned (.tuple #[.agg #[str x.name,.int .i64 x.points,.int .i64 x.fuel,.int .i64 x.box.v,.int .i64 x.box.l,.int .i64 x.box.i,.slice va x.g.vars.length vc,.slice pa x.g.procs.length pc,.int .u8 x.g.main.kind,.int .i64 x.g.main.num,str x.g.main.name,.slice ma x.g.main.kids.length mc],str rest,.int .i64 0])/\x.sits (w.heap.size <= ·) w' va pa ma vc/\Ext w w'
def ReadOk.ret {x:EX} {rest:lB} {w w':wD} {e:Ending} (h:ReadOk x rest w e w') : ∃v,e = .returned v:=by
 obtain ⟨_,_,_,_,_,_,h,-⟩:=h;exact ⟨_,h⟩
def XL {s:lB} {x:EX} {rest:lB} (h:Iq s = .ok (x,rest)) (f:s.length<=100000) (w:wD) (E:Errs2 w) (F:TabsF w):Calls prog 37 #[str s] w (ReadOk x rest w):=by
 have:=VY s f w E F;rw [h] at this;exact this
def Wc {s:lB} {k:Int} (h:Iq s = .error k) (f:s.length<=100000) (w:wD) (E:Errs2 w) (F:TabsF w):Calls prog 37 #[str s] w fun e w'=>e = .returned (.tuple #[.agg #[str [],.int .i64 0,.int .i64 0,.int .i64 0,.int .i64 0,.int .i64 0,.slice none 0 0,.slice none 0 0,.int .u8 0,.int .i64 0,str [],.slice none 0 0],str [],.int .i64 k])/\Ext w w':=by
 have:=VY s f w E F;rw [h] at this;exact this
def Ug {s:lB} {k:Int} (h:Iq s = .error k):k=3\/k=4:=by
 unfold Iq at h;split at h
 . injection h with h;omega
 split at h
 . injection h with h;omega
 split at h
 . injection h with h;omega
 split at h
 . injection h with h;omega
 split at h
 . injection h with h;omega
 split at h
 . injection h with h;omega
 . cases h
def RU {s:lB} {x:EX} {rest:lB} (h:Iq s = .ok (x,rest)):rest.length<=s.length/\x.valid:=by
 unfold Iq at h;split at h
 . cases h
 split at h
 . cases h
 split at h
 . cases h
 split at h
 . cases h
 split at h
 . cases h
 split at h
 . cases h
 rename_i f;injection h with h
 injection h with h1 h2
 subst h1 h2;have:=SO (E2 s).2.1 (Dy (Ch (E2 s).1) 5).toNat;have:=VX s;exact ⟨Ab,Classical.not_not.1 f⟩
noncomputable def En:Nat->List EX->Nat->lB->List EX×Int×Int
 | 0,_,_,_=>([],0,0)
 | n+1,acc,line,s=>
  if s=[] then (acc,0,0) else if acc.length=100 then ([],line,5) else match Iq s with
  | .error k=>([],line,k)
  | .ok (x,rest)=>if Fi acc x.name=true then ([],line,22) else En n (acc++[x]) (line+Lib.countByte (s.take (s.length-rest.length)) 10) rest
noncomputable def RV (s:lB):List EX×Int×Int:=if 65536<s.length then ([],0,5) else En 101 [] 1 s
def Z7 (q:List EX×Int×Int) (w:wD):Ending->wD->Prop:=fun e w'=> ∃a c,e = .returned (.tuple #[.slice a q.1.length c,.int .i64 q.2.1,.int .i64 q.2.2])/\q.1.length<=c/\EXs (w.heap.size <= ·) w' q.1 a/\Ext w w'
set_option maxHeartbeats 8000000 in
def Uh (s:lB) (hs:s.length<=9223372036854775807) (w:wD) (L:Errs2 w) (F:TabsF w) :
 Calls prog 18 #[str s] w (Z7 (RV s) w):=by
 have X:=dI w;have bi:=F.g;unfold RV;rcases (Decidable.em (65536<s.length)) with hl|hl
 . rw [AU hl];refine Af func18 ntmps18 rfl rfl ?_;refine eK ?_;refine E4 rfl rfl rfl rfl ?_;exact ⟨_,_,rfl,bJ _,bC rfl,X⟩
 rw [AE hl];refine Af func18 ntmps18 rfl rfl ?_;refine cS (C1 Pa (C1 Pa (C1 Pa (cT (Aj (cS (C1 Mv (C1 Py (C1 V5 (cT (C9 ?_)))))))))));refine As (Ai (cS (C1 Pa (cN (C1 Pa (cT ?_))))));refine Aj (Ar ?_);refine AJ (ι:=lB×List EX×oA×Nat×Nat) (fun x=>[(0,str x.1),(5,.slice x.2.2.1 x.2.1.length x.2.2.2.1),(6,.int .i64 x.2.2.2.2)])
  (fun x w'=>x.2.1.length<=100/\x.2.2.2.2+x.1.length<=65537/\En 101 [] 1 s=En (101-x.2.1.length) x.2.1 x.2.2.2.2 x.1/\OwnL Fy w' w.heap.size 36 (.slice x.2.2.1 x.2.1.length x.2.2.2.1) x.2.1/\Errs2 w'/\TabsF w'/\Ext w w')
  (fun x=>100-x.2.1.length) (s,[],none,0,1) sB ⟨by simp only [aX];omega,by simp only;omega,rfl,OwnL.nil,L,F,X⟩ ?_
 clear L F X;rintro ⟨t,acc,a,cap,line⟩ U ⟨ag,ah,he,f,L,F,X⟩;simp only at ag ah he f;rw [he];clear he hl hs;generalize s=s0 at *;have hz:=X.size;refine CW.sub (m:=[(0,str t),(5,.slice a acc.length cap),(6,.int .i64 line)]) ?_ sB;obtain ⟨m,hm⟩ : ∃m,101-acc.length=m+1:=⟨100-acc.length,Ab⟩;rw [hm];by_cases Y:t=[]
 . rw [show En (m+1) acc line t=(acc,0,0) from by rw [En,AU Y]];subst Y;refine eK ?_;refine E4 rfl rfl rfl rfl ?_;exact ⟨_,_,rfl,OwnL.cap f,OwnL.exs f (fun b h=>h),X⟩
 by_cases h1:acc.length=100
 . rw [show En (m+1) acc line t=([],(line:Int),5) from by rw [En,AE Y,AU h1]];refine eK ?_;refine E4 rfl rfl rfl rfl ?_;exact ⟨_,_,rfl,bI _,bC rfl,X⟩
 cases hr:Iq t with
 | error k=>
  rw [show En (m+1) acc line t=([],(line:Int),k) from by rw [En,AE Y,AE h1,hr]];have HR:=bA (fun U h1 h2=>Wc hr Ab U h1 h2);have hk:=Ug hr;clear hr;refine eK ?_;refine cC rfl (HR.out _ Ag Ag) ?_;rintro _ bj ⟨⟨⟩,ai⟩;revert f L F X;refine eY ai ?_;intro bk f L F X;refine eK ?_;refine xA [_,_,_,_,_,_,_,_,_,_,_,_] ?_;intro bl bm aj;refine eI [_,_,_,_,_,_,_,_,_,_,_,_] aj ?_;intro bn bo ak aq ar;revert f L F X;refine eE ak ?_;intro f L F X;refine eK ?_;refine E4 rfl rfl rfl rfl ?_;exact ⟨_,_,rfl,bI _,bC rfl,X⟩
 | ok q=>
  obtain ⟨x,rest⟩:=q;have HR:=bA (fun U h1 h2=>XL hr Ab U h1 h2);have bp:=(RU hr).1;have HH:=bA (fun U h=>Yh acc Ab x.name (fun b=>w.heap.size<=b) a cap U h);have al:Fi acc x.name=true->En (m+1) acc line t=([],(line:Int),22):=fun hh=>by rw [En,AE Y,AE h1,hr];exact AU hh
  have am:Fi acc x.name=false->En (m+1) acc line t=En m (acc++[x]) (line+Lib.countByte (t.take (t.length-rest.length)) 10) rest:=fun hh=>by rw [En,AE Y,AE h1,hr];exact AE (by rw [hh];decide)
  have an : ∀g,(cP a acc.length cap).ownBlock=some g->g<U.heap.size:=fun g h=>f.lt h
  have ao:=Io (t.take (t.length-rest.length));rw [cH] at ao;have HN:Hid (∀U,Calls prog 33 #[str (t.take ((t.length:Int)-(rest.length:Int)).toNat),str [10]] U fun e w'=>e = .returned (.int .i64 (Lib.countByte (t.take (t.length-rest.length)) 10:Nat))/\w'=U):=bA fun U=>by
   rw [show ((t.length:Int)-(rest.length:Int)).toNat=t.length-rest.length from by omega];exact ND _ _
  clear hr;generalize Lib.countByte (t.take (t.length-rest.length)) 10=N at *;generalize Fi acc x.name=q at *
  focus
   refine eK ?_;refine eQ rfl (HR.out _ Ag Ag) ?_;rintro _ bq ⟨au,⟨av,⟨aw,⟨ax,⟨ay,⟨az,⟨⟨⟩,⟨M,ap⟩⟩⟩⟩⟩⟩⟩⟩;revert f L F X;refine eY ap ?_;intro a0 f L F X;refine eK ?_;refine xA [_,_,_,_,_,_,_,_,_,_,_,_] ?_;intro a1 a2 Z;refine eI [_,_,_,_,_,_,_,_,_,_,_,_] Z ?_;intro a3 E aa a4 a5;revert M f L F X;refine eE aa ?_;intro M f L F X;refine eK ?_;refine cC rfl (HH.out _ (OwnL.exs f (fun b h=>h))) ?_;rintro _ a6 ⟨⟨⟩,ab⟩;revert E M f L F X;refine eY ab ?_;intro a7 E M f L F X;refine C1 WD (cT ?_);refine CV rfl (fun ac=>?_) (fun ac=>?_);refine eK ?_;refine E4 rfl rfl rfl rfl ?_;rotate_left;refine eK ?_;refine Bm [_,_,_,_,_,_,_,_,_,_,_,_] Ac rfl rfl rfl E rfl rfl rfl ?_;refine Au (xS [_,_,_,_,_,_,_,_,_,_,_,_]) rfl ?_ aFh;rintro _ a8 ⟨a9,rfl,O,ba⟩;have ad:=O.blk;have ae:=O.ext;have bb:=O.pos;have bc:=O.size;revert E M f L F X;refine eE ae ?_;intro E M f L F X;refine BN (sh:=Fy) Ac CM rfl rfl rfl rfl Bl rfl rfl rfl f (Blk.row Ag) ⟨_,_,_,_,_,_,rfl,EX.sits.wide Ag (fun b h=>⟨Ab,fun e=>by have:=an _ e;omega⟩)⟩ Ab Ab rfl ?_;rintro bd af be bf V;have bg:=V.size;clear ad E M f;revert L F X;refine eF V ?_;intro L F X;refine eK ?_;refine C1 (Cv rfl rfl (bT _ Ab)) (C1 (M4 Ac rfl rfl rfl Ab Ab) (cC rfl (HN.out _) ?_));rintro _ bh ⟨⟨⟩,rfl⟩;refine C1 V7 (C1 Pa (cT (Ad (C1 Mv (C1 Pa (Ah (Ae ?_)))))));rotate_left
  . rw [al Ag];exact ⟨_,_,rfl,bI _,bC rfl,X⟩
  . rw [am Ag];refine Aw (rest,acc++[x],some ⟨_,0,none⟩,_,line+N) sB ⟨by simp only [aU,aV,aX];omega,by simp only;omega,by simp only [aU,aV,aX];rw [show 101-(acc.length+(0+1))=m from by omega],Ag,Ag,Ag,X⟩ (by simp only [aU,aV,aX];omega)
def awText:lB:=[101,120,101,114,99,105,115,101,32,105,110,99,32,112,111,105,110,116,115,32,53,32,102,117,101,108,32,49,48,48,32,118,97,108,117,101,32,50,32,108,101,110,103,116,104,32,48,32,105,110,112,117,116,32,48,32,108,105,110,101,115,32,52,10,105,110,116,32,120,10,109,97,105,110,32,123,10,9,120,32,43,61,32,49,59,10,125,10]
def aQ:PG:=⟨[⟨[120],1,0⟩],[],.mk 57 0 [] [.mk 40 0 [] [.mk 2 0 [120] [],.mk 1 1 [] []]]⟩
def awE:EX:=⟨[105,110,99],5,100,⟨2,0,0⟩,aQ⟩
def QJ:awE.valid:=of_decide_eq_true Bl
def Wd:RV awText=([awE],0,0):=by kernel_rfl
def XM:awE.text=awText:=by kernel_rfl
def We:Dj [awE]=(awText,0):=by
 have E:Ec [awE]=awText:=by unfold Ec;rw [List.flatMap_cons,List.flatMap_nil,List.append_nil,XM]
 have F : ¬QA [awE]:=by
  rintro ⟨i,L,e,f,h⟩;simp only [aV,aX] at L;obtain rfl:i=0:=by omega
  simp [Fi] at h
 rw [Ks Az (fun e f=>by rw [dG] at f;rw [f];exact QJ) F (by rw [E];decide),E]
def Yj:awE.wf:=by
 refine ⟨?_,?_,?_⟩
 . decide
 . exact Hl (awText.drop 64) Az Bl
 . decide
def AwR (w:wD):Ending->wD->Prop:=fun e w'=> ∃b o va vc pa pc ma mc c,e = .returned (.tuple #[.slice (some ⟨b,o,none⟩) 1 c,.int .i64 0,.int .i64 0])/\Row w' ⟨b,o,none⟩ [str [105,110,99],.int .i64 5,.int .i64 100,.int .i64 2,.int .i64 0,.int .i64 0,.slice va 1 vc,.slice pa 0 pc,.int .u8 57,.int .i64 0,str [],.slice ma 1 mc]/\awE.sits (w.heap.size <= ·) w' va pa ma vc/\1<=c/\EXs (w.heap.size <= ·) w' [awE] (some ⟨b,o,none⟩)/\Ext w w'
def AwR.ret {w w':wD} {e:Ending} (h:AwR w e w') : ∃v,e = .returned v:=by
 obtain ⟨_,_,_,_,_,_,_,_,_,h,-⟩:=h;exact ⟨_,h⟩
def Z8 (w:wD) (E:Errs2 w) (F:TabsF w):Calls prog 18 #[str awText] w (AwR w):=by
 have h:=Uh awText Az w E F;rw [Wd] at h;refine h.mono ?_;rintro e w' ⟨a,c,h1,L,f,X⟩;obtain ⟨b,o,rfl,-,M⟩:=eW f Bd;obtain ⟨N,O,U,V,Y,Z,r,s⟩:=M 0 _ rfl;exact ⟨b,o,N,O,U,V,Y,Z,c,h1,r,s,L,f,X⟩
def AwS (w:wD):Ending->wD->Prop:=fun e w'=> ∃va vc pa pc b o mc n s xa xl xc,e = .returned (.tuple #[.agg #[.slice va 1 vc,.slice pa 0 pc,.int .u8 57,.int .i64 0,str [],.slice (some ⟨b,o,none⟩) 1 mc],.int .i64 0])/\Row w' ⟨b,o,none⟩ [.int .u8 41,.int .i64 n,str s,.slice xa xl xc]/\Ext w w'
def AwS.ret {w w':wD} {e:Ending} (h:AwS w e w') : ∃v,e = .returned v:=by
 obtain ⟨_,_,_,_,_,_,_,_,_,_,_,_,h,-⟩:=h;exact ⟨_,h⟩
def aR:PG:=⟨[⟨[120],1,0⟩],[],.mk 57 0 [] [.mk 41 0 [] [.mk 2 0 [120] [],.mk 1 1 [] []]]⟩
def ZO:awE.g.pinv=aR:=by kernel_rfl
def Y2 (S:nP) (f:oA) (E:Nat) (F:oA) (Z:Nat) (L:oA) (mc:Nat) (w:wD) (hs:awE.sits S w f F L E) :
 Calls prog 22 #[.agg #[str [105,110,99],.int .i64 5,.int .i64 100,.int .i64 2,.int .i64 0,.int .i64 0,.slice f 1 E,.slice F 0 Z,.int .u8 57,.int .i64 0,str [],.slice L 1 mc]] w (AwS w):=by
 have h:=XA awE Yj QJ S f E F Z L mc w hs;rw [ZO] at h;refine Calls.mono h ?_;rintro e w' ⟨M,N,O,U,V,Y,h1,h2,-,-,X⟩;have hm:=h2.main;obtain ⟨b,o,xa,xc,rfl,-,r,-⟩:=Z2 (show rowSits _ w' [.mk 41 0 [] [.mk 2 0 [120] [],.mk 1 1 [] []]] V from hm);exact ⟨M,N,O,U,b,o,Y,_,_,_,_,_,h1,r,X⟩
def Ui (w:World) (M:Errs2 w) (L:TabsF w):Calls prog 10 #[] w fun e w'=>e = .returned (.bool true)/\Ext w w':=by
 have X:=dI w;have al:=L.g;have HP:=bA (fun Y h1 h2=>Z8 Y h1 h2);have HR:=bA (fun S a c hc Y h1 h2=>NH [awE] (fun e he=>by rw [dG] at he;rw [he];exact Yj) S a c Az hc Y h1 h2);rw [We] at HR;have HS:=bA (fun S va vc pa pc ma mc Y h=>Y2 S va vc pa pc ma mc Y h);have am:str awText = .string ⟨awText.toArray⟩:=rfl;refine Af func10 ntmps10 rfl rfl ?_
 refine cS (C1 Pa (cN (C1 Pa (cN (C1 Mv ?_)))));refine eQ rfl (HP.out _ Ag Ag) ?_;rintro _ an ⟨b1,⟨o2,⟨ao,⟨ap,⟨aq,⟨ar,⟨au,⟨av,⟨c9,⟨⟨⟩,⟨f,⟨E,⟨aw,⟨F,N⟩⟩⟩⟩⟩⟩⟩⟩⟩⟩⟩⟩⟩⟩;have ax:=N.size;revert M L X;refine eE N ?_;intro M L X;clear N;refine C1 Mv (C1 Px (C1 Px (C1 Px (C1 Pa (C1 Pa (C1 Pa (cT (Aj (cS (C1 Mv (C1 V2 ?_)))))))))));refine C1 Mv (Jg (C1 Mv (Jg (C1 V2 (C1 Wp (C1 Mv (Jg (C1 Mv (Jg (C1 Pz (Jg ?_)))))))))));refine C1 V2 (C1 Wp (C1 Mv (Jg (C1 Mv (Jg (C1 Pi (Jg (C1 Pg (Jg (C1 (Pw f) (Jg ?_)))))))))));refine C1 V9 (C1 Wp (C1 Mv (Jg (C1 Mv (Jg (C1 Pi (Jg (C1 Pf (Jg (C1 (Pw f) (Jg ?_)))))))))));refine C1 V2 (C1 Wp (cT (Hj (As (Ai (cS (C1 Mv ?_)))))));refine cC rfl (HR.out _ _ _ Ag _ Ag Ag) ?_;rintro _ ay ⟨⟨⟩,O⟩;have az:=O.size;revert f E F M L X;refine eE O ?_;intro f E F M L X;clear O;refine C1 Mv (C1 Px (C1 Px (C1 Pa (C1 Pa (cN (C1 Mv (C1 Pi (B6 [_,_,_,_,_,_,_,_,_,_,_,_] Ac rfl rfl rfl f rfl rfl rfl ?_))))))));refine eQ rfl (HS.out _ _ _ _ _ _ _ _ Ag) ?_;rintro _ a0 ⟨ad,⟨ae,⟨af,⟨ag,⟨a1,⟨a2,⟨ah,⟨a3,⟨a4,⟨ai,⟨aj,⟨ak,⟨⟨⟩,⟨U,V⟩⟩⟩⟩⟩⟩⟩⟩⟩⟩⟩⟩⟩⟩;have a5:=V.size;revert f E F M L X;refine eE V ?_;intro f E F M L X;clear V;refine C1 Mv (C1 Px (C1 Px ?_));refine Gn [_,_,_,_,_,_] CM rfl rfl ?_
 intro a6 ac Z;refine eI [_,_,_,_,_,_] Z ?_;clear Z ac;intro a7 aa ab a8 a9;revert U f E F M L X;refine eE ab ?_;intro U f E F M L X;clear ab;refine C1 Pa (cN (C1 Mv (C1 V1 (C1 Mv (Lg (C1 Mv (Lg (C1 Mv (Lg (C1 V8 (C1 WD ?_)))))))))));refine C1 Mv (Lg (C1 Mv (Lg (C1 V1 (C1 WD (C1 Mv (Lg (C1 Pf (Lg (C1 Pf (Lg ?_)))))))))));refine C1 (Pl aa) (Lg (C1 Pz (Lg (C1 V1 (C1 WD (C1 Mv (Lg (C1 Pf (Lg (C1 Pf (Lg ?_)))))))))));refine C1 (Pl aa) (Lg (C1 Pi (Lg (C1 Pg (Lg (C1 (Pw U) (Lg (C1 V1 (C1 WD (C1 Pa (cT ?_)))))))))));refine BD (Be rfl rfl ?_)
 exact ⟨rfl,X⟩
def CntR (d:Nat) (w:wD):Ending->wD->Prop:=fun e w'=> ∃v:Int,e = .returned (.int .i64 v) /\ -1<=v/\v<=1001*d/\Ext w w'
def CntR.ret {d:Nat} {w w':wD} {e:Ending} (h:CntR d w e w') : ∃v,e = .returned v:=by
 obtain ⟨_,h,-⟩:=h;exact ⟨_,h⟩
def QK : ∀(d:Nat),d<=100 -> ∀(t:Nd) (S:Nat->Prop) (a:Option Addr) (c:Nat) (w:World),t.wf->t.sits S w a->Calls prog 76 #[t.val a c,.int .i64 d] w (CntR d w)
 | 0,_,⟨k,n,s,l⟩,S,a,c,w,M,E=>by
  have X:=dI w;simp only [dM,dU,dO,dN,dW];refine Af func76 ntmps76 rfl rfl ?_
  refine cS ?_;refine eB [_,_,_,_] ?_;intro b1 w2 h4 x5 p6 z7;replace E:=Nd.sits.ext E x5;replace X:=X.ext x5;clear x5;refine C1 Pa (cT (Aj (cS (C1 Mv (C1 V3 (cT (ZU (cS (C1 Pa (cT (BD ?_)))))))))));refine AL (Be rfl rfl ?_)
  exact ⟨_,rfl,Ab,Ab,X⟩
 | d+1,hd,⟨k,n,s,l⟩,S,a,c,w,M,E=>by
  have X:=dI w;simp only [dM,dU,dO,dN,dW];have E:=(Lj _ _ E:(Nd.mk k n s l).sits _ w a);simp only [dY] at E;simp only [Nd.wf] at M;have HI:=bA (QK d Ab)
  have af:l.length<=9223372036854775807:=by omega
  have HW:=bA (rowWf_iff.1 M.2.2.2.2.2.2);clear M
  have O:((d+1:Nat):Int)=(d:Int)+1:=by omega
  rw [O];refine Af func76 ntmps76 rfl rfl ?_
  refine cS ?_;refine F1 [_,_,_,_] rfl rfl rfl ?_;intro U ag L;have f:=L.blk;have V:=L.ext;have ah:=L.pos;have ai:=L.size;clear L E;replace X:=X.ext V;replace E:=Bk.rowSits.ext E V;clear V;refine C1 Pa (cT (Aj (cS (C1 Mv (C1 V3 (cT (C9 (As (Ai (cS (C1 Pa ?_)))))))))));refine cT (Aj (cS (C1 Pa (cT ?_))))
  refine Ar ?_;refine AJ (ι:=Nat×Int) (fun x=>[(1,.int .i64 ((d:Int)+1)),(2,.pointer (some ⟨U,0,none⟩)),(5,.int .i64 x.2),(6,.int .i64 x.1)])
   (fun x w'=>x.1<=l.length/\(1<=x.2/\x.2<=1001*((d:Int)+1))/\Blk w' U [.int .u8 k,.int .i64 n,str s,.slice a l.length c]/\rowSits S w' l a/\Ext w w') (fun x=>l.length-x.1) (0,1) sB ⟨bI _,⟨Ab,by simp only;omega⟩,f,E,X⟩ ?_
  clear f E X;rintro ⟨i,v⟩ Y ⟨hi,⟨aa,ab⟩,f,E,X⟩;simp only at hi aa ab;refine CW.sub (m:=[(1,.int .i64 ((d:Int)+1)),(2,.pointer (some ⟨U,0,none⟩)),(5,.int .i64 v),(6,.int .i64 i)]) ?_ sB
  by_cases N:i<l.length
  . obtain ⟨kb,ko,rfl,aj,hk⟩:=Ba E (by intro h;rw [h] at N;simp at N);obtain ⟨xa,xc,rx,sx⟩:=hk i _ (aY N);have Z:=HW.out _ (bD N);clear hk
    generalize l[i]=x at *
    replace HI:Hid (∀a c Y,x.sits S Y a->Calls prog 76 #[x.val a c,.int .i64 ((d:Int)+1-1)] Y (CntR d Y)):=bA fun a c Y h=>by rw [Int.add_sub_cancel];exact HI.out x S a c Y Z h
    clear Z;obtain ⟨xk,xn,xs,xl⟩:=x;simp only [dM,dU,dO,dN,dW,Nd.cells] at rx HI
    focus
     refine Aj (cS (C1 Mv (C1 Pf (C1 (Pl f) (C1 Pz (C1 V3 (cT (S1 (As (Ai (Aj ?_)))))))))));refine Ar (cS (C1 Pf (C1 (Pl f) (C1 Mv (C1 Pi (C1 (Uz rx) (C1 Mv ?_)))))));refine C1 (Cv rfl rfl (bT _ Ab)) ?_;refine eQ rfl (HI.out _ _ _ Ag) ?_;rintro _ ak ⟨ac,⟨⟨⟩,⟨al,⟨am,F⟩⟩⟩⟩;have an:=F.size;replace X:=X.ext F;replace f:=f.ext F;replace E:=Bk.rowSits.ext E F;replace rx:=rx.ext F;replace sx:=Nd.sits.ext sx F;clear F;refine C1 Pa (cT (Aj (cS (C1 Mv (C1 V3 (C1 Mv ?_))))));refine Cm rfl rfl rfl (fun ad=>?_) (fun ad=>?_);refine N1 (N1 (C1 SZ (cT (CK rfl (cS (C1 Pa (cT (BD (AL (AV (AL ?_)))))))))));refine AL (AV (AL (Be rfl rfl ?_)));rotate_left;refine S3 (C1 Mv (S3 (C1 V5 (C1 S0 (cT ?_)))));refine AH rfl (fun ae=>?_) (fun ae=>?_);refine cS (C1 Pa (cT (BD (AL (AV (AL (AL (AV (AL (Be rfl rfl ?_))))))))));rotate_left;refine As (Ai (Ad (C1 Mv (C1 Mv (C1 V7 (C1 Pa (Ah (Ae (Ai (Ad (C1 Mv ?_)))))))))));refine C1 V7 (C1 Pa (Ah ?_));rotate_left
    . exact ⟨_,rfl,Ab,Ab,X⟩
    . exact ⟨_,rfl,Ab,Ab,X⟩
    . exact Aw (i+1,v+ac) sB ⟨by (try dsimp only);omega,⟨by (try dsimp only);omega,by (try dsimp only);omega⟩,f,E,X⟩ (by (try dsimp only);omega)
  . have:i=l.length:=by omega
    subst this
    refine Aj (cS (C1 Mv (C1 Pf (C1 (Pl f) (C1 Pz (C1 V3 (cT (C9 (CB (AG (AG ?_)))))))))));refine A8 (Ai (cS (C1 Mv (C1 Pa (cT (BD (Be rfl rfl ?_)))))))
    exact ⟨_,rfl,Ab,Ab,X⟩
def BoolR (w:wD):Ending->wD->Prop:=fun e w'=> ∃b:Bool,e = .returned (.bool b)/\Ext w w'
def BoolR.ret {w w':wD} {e:Ending} (h:BoolR w e w') : ∃v,e = .returned v:=by
 obtain ⟨_,h,-⟩:=h;exact ⟨_,h⟩
def Wf (t:Nd) (E:t.wf) (S:nP) (a:oA) (c:Nat) (w:wD) (f:t.sits S w a):Calls prog 41 #[t.val a c] w (BoolR w):=by
 have X:=dI w;have L:=bA (fun U h=>QK 100 Ab t S a c U E h);clear E;obtain ⟨k,n,s,l⟩:=t;simp only [dM,dU,dO,dN,dW] at L ⊢;refine Af func41 ntmps41 rfl rfl ?_
 focus
  refine cS (eB [_,_,_,_] ?_);intro b1 w2 F V p6 z7;revert X f;refine eE V ?_;intro X f;refine eK ?_;refine eQ rfl (L.out _ Ag) ?_;rintro _ Y ⟨v8,⟨⟨⟩,⟨h9,⟨Z,M⟩⟩⟩⟩;revert F X f;refine eY M ?_;intro aa F X f;refine eK ?_;refine Cm rfl rfl rfl (fun N=>?_) (fun N=>?_);refine eK ?_;refine xR ?_;rotate_left;refine eK ?_;refine eQ rfl (L.out _ Ag) ?_;rintro _ ab ⟨ac,⟨⟨⟩,⟨ad,⟨ae,O⟩⟩⟩⟩;revert F X f;refine eY O ?_;intro z20 F X f;refine eK ?_;refine xR ?_;rotate_left
 all_goals exact ⟨_,rfl,X⟩
def BigR (g:PG) (w:wD):Ending->wD->Prop:=fun e w'=> ∃b:Bool,e = .returned (.bool b)/\(b=false->g.vars.length<=40/\g.procs.length<=70)/\Ext w w'
def BigR.ret {g:PG} {w w':wD} {e:Ending} (h:BigR g w e w') : ∃v,e = .returned v:=by
 obtain ⟨_,h,-⟩:=h;exact ⟨_,h⟩
def Y3 (g:PG) (E:g.wf) (S:nP) (va:oA) (vc:Nat) (U:oA) (pc:Nat) (V:oA) (mc:Nat) (w:wD) (hs:g.sits S w va U V):Calls prog 21 #[.agg (g.cells va vc U pc V mc).toArray] w (BigR g w):=by
 have X:=dI w;have HB:=bA (fun Y h=>Wf g.main E.main S V mc Y h);have hv:=E.nv;have hp:=E.np;have HW:=bA E.procs;have f:=hs.procs;have M:=hs.main;clear hs E;obtain ⟨vars,procs,m⟩:=g;simp only [dW] at HB f M hv hp HW ⊢;refine Af func21 ntmps21 rfl rfl ?_
 focus
  refine cS (F1 [_,_,_,_,_,_] rfl rfl rfl ?_);intro b1 w2 Z;have F:=Z.blk;dsimp only at F;have x5:=Z.ext;have p6:=Z.pos;have z7:=Z.size;revert X f M;refine eE x5 ?_;intro X f M;refine eK ?_;refine Cm rfl rfl rfl (fun c8=>?_) (fun c8=>?_);refine eK ?_;refine xR ?_;rotate_left;refine eK ?_;refine Cm rfl rfl rfl (fun c9=>?_) (fun c9=>?_);refine eK ?_;refine xR ?_;rotate_left;refine eK ?_;refine eQ rfl (HB.out _ Ag) ?_;rintro _ af ⟨ag,⟨⟨⟩,aa⟩⟩;revert F X f M;refine eY aa ?_;intro ah F X f M;refine C1 S0 (cT ?_);refine CV rfl (fun ab=>?_) (fun ab=>?_);refine eK ?_;refine xR ?_;rotate_left;refine As (Ai (Aj (cS (C1 Pa (cT ?_)))));rotate_left
 . exact ⟨_,rfl,(fun h=>by cases h),X⟩
 . exact ⟨_,rfl,(fun h=>by cases h),X⟩
 . exact ⟨_,rfl,(fun h=>by cases h),X⟩
 refine Ar ?_;refine AJ (ι:=Nat) (fun j=>[(1,.pointer (some ⟨b1,0,none⟩)),(3,.int .i64 j)])
  (fun j w'=>j<=procs.length/\Blk w' b1 [.slice va vars.length vc,.slice U procs.length pc,.int .u8 m.kind,.int .i64 m.num,str m.name,.slice V m.kids.length mc]/\PDs S w' procs U/\Ext w w') (fun j=>procs.length-j) 0 sB ⟨bI _,F,f,X⟩ ?_
 clear F f X M;rintro j Y ⟨hj,F,f,X⟩;by_cases N:j<procs.length
 . obtain ⟨kb,ko,rfl,-,hk⟩:=eW f Ab;obtain ⟨xa,xc,ya,yc,rx,-,sx⟩:=hk j _ (aY N);have L:=HW.out _ (bD N);clear hk;generalize procs[j]=x at *;have O:=bA (fun Y h=>Wf x.body L.body S ya yc Y h);have ai:=L.len;clear L;simp only [dW] at O
   focus
    refine eK ?_;refine C1 (Pw rx) ?_;refine eK ?_;refine Cm rfl rfl rfl (fun ac=>?_) (fun ac=>?_);refine eK ?_;refine xR ?_;rotate_left;refine eK ?_;refine B6 [_,_,_,_] Ac rfl rfl rfl rx rfl rfl rfl (S3 (eQ rfl (O.out _ Ag) ?_));rintro _ aj ⟨ak,⟨⟨⟩,ad⟩⟩;revert X F f rx sx;refine eY ad ?_;intro al X F f rx sx;refine C1 S0 (cT ?_);refine CV rfl (fun ae=>?_) (fun ae=>?_);refine eK ?_;refine xR ?_;rotate_left;refine As (Ae (Ai (Ad (C1 Mv (C1 V7 (C1 Pa (Ah ?_)))))));rotate_left
   . exact ⟨_,rfl,(fun h=>by cases h),X⟩
   . exact ⟨_,rfl,(fun h=>by cases h),X⟩
   . exact Aw (j+1) sB ⟨Ab,F,f,X⟩ Ab
 . refine eK ?_;refine xR ?_;exact ⟨_,rfl,(fun _=>⟨by (try dsimp only);omega,by (try dsimp only);omega⟩),X⟩
def Yk (e:EX) (M:oA) (N:Nat) (O:oA) (U:Nat) (V:oA) (Y:Nat) (w:wD) :
 Calls prog 13 #[.agg (e.cells M N O U V Y).toArray] w fun r w'=>r = .returned (.agg (e.cells M N O U V Y).toArray)/\Ext w w':=by
 have X:=dI w;unfold eP;refine Af func13 ntmps13 rfl rfl ?_;refine cS (eB [_,_,_,_,_,_,_,_,_,_,_,_] ?_);intro b1 w2 f Z p6 z7;have X:=X.ext Z;refine eA [_,_,_,_,_,_,_,_,_,_,_,_] ?_;intro b8 w9 h E aa ab;revert f X;refine eE E ?_;intro f X;refine eK ?_;refine C1 (xB [_,_,_,_,_,_,_,_,_,_,_,_]) (eS [_,_,_,_,_,_,_,_,_,_,_,_] h ?_);intro ac F L ad;revert f X;refine eF L ?_;intro f X;refine eK ?_;refine xC F ?_;exact ⟨rfl,X⟩
def Y4 (l:List EX) (w:wD):Ending->wD->Prop:=fun e w'=> ∃b:Bool,e = .returned (.bool b)/\(b=false->l.length<=110 /\ ∀e∈l,e.g.vars.length<=40/\e.g.procs.length<=70)/\Ext w w'
def Uj (l:List EX) (aa:l.length<=9223372036854775807) (Z : ∀e∈l,e.g.wf) (S:nP) (a:oA) (c:Nat) (w:wD) (f:EXs S w l a):Calls prog 11 #[.slice a l.length c] w (Y4 l w):=by
 have X:=dI w;have f:=f.ltA;have HW:=bA Z;clear Z;refine Af func11 ntmps11 rfl rfl ?_
 focus
  refine eK ?_;refine AH rfl (fun c1=>?_) (fun c1=>?_);refine eK ?_;refine xR ?_;rotate_left;refine As (Ai (Aj (cS (C1 Pa (cT ?_)))));rotate_left
 . exact ⟨_,rfl,(fun h=>by cases h),X⟩
 refine Ar ?_;refine AJ (ι:=Nat) (fun j=>[(0,.slice a l.length c),(3,.int .i64 j)])
  (fun j w'=>j<=l.length/\(∀e∈l.take j,e.g.vars.length<=40/\e.g.procs.length<=70)/\EXs (· < w.heap.size) w' l a/\Ext w w') (fun j=>l.length-j) 0 sB ⟨bI _,(fun e F=>by simp at F),f,X⟩ ?_
 clear f X;rintro j w1 ⟨hj,L,f,X⟩;have HQ:=bA L;clear L;by_cases E:j<l.length
 . obtain ⟨kb,ko,rfl,-,hk⟩:=eW f Ab;obtain ⟨va,vc,pa,pc,ma,mc,N,O⟩:=hk j _ (aY E);have hx:=HW.out _ (bD E);have hn:(l[j].g.vars.length<=40/\l[j].g.procs.length<=70) -> ∀e∈l.take (j+1),e.g.vars.length<=40/\e.g.procs.length<=70:=fun h e F=>by
    rw [bE E,List.mem_append,dG] at F;rcases F with F|rfl
    . exact HQ.out e F
    . exact h
   clear hk;generalize l[j]=e at *;have HN:=bA hn;clear hn;have HB:=bA (fun w1 h=>Y3 e.g hx (· < w.heap.size) va vc pa pc ma mc w1 h);clear hx;have M:=O.g;unfold eP at N
   focus
    refine eK ?_;refine B6 [_,_,_,_,_,_] Ac rfl rfl rfl N rfl rfl rfl (eQ rfl (HB.out _ Ag) ?_);rintro _ ab ⟨ac,⟨⟨⟩,⟨U,V⟩⟩⟩;revert X f N O M;refine eY V ?_;intro ad X f N O M;refine cT ?_;refine CV rfl (fun Y=>?_) (fun Y=>?_);refine eK ?_;refine xR ?_;rotate_left;refine As (Ae (Ai (Ad (C1 Mv (C1 V7 (C1 Pa (Ah ?_)))))));rotate_left
   . exact ⟨_,rfl,(fun h=>by cases h),X⟩
   . exact Aw (j+1) sB ⟨Ab,HN.out (U Ag),f,X⟩ Ab
 . obtain rfl:j=l.length:=by omega
   have L:=HQ.out;rw [bH] at L;refine eK ?_;refine xR ?_;exact ⟨_,rfl,(fun _=>⟨Ab,L⟩),X⟩
def GivenR (l:List EX) (w:wD):Ending->wD->Prop:=fun e w'=> ∃a c,e = .returned (.slice a l.length c)/\l.length<=c/\EXs (· < w'.heap.size) w' l a/\Ext w w'
def GivenR.ret {l:List EX} {w w':wD} {e:Ending} (h:GivenR l w e w') : ∃v,e = .returned v:=by
 obtain ⟨_,_,h,-⟩:=h;exact ⟨_,h⟩
def Y5 (S:nP) (l:List EX) (w:wD):Ending->wD->Prop:=fun e w'=> ∃a c,e = .returned (.slice a l.length c)/\l.length<=c/\OwnQ Fy w' S w.heap.size 36 (.slice a l.length c) l/\(l=[]->a=none/\c=0)/\(∀g,(cP a l.length c).ownBlock=some g->w.heap.size<=g)/\Ext w w'
def Wg (l:List EX) (am:l.length<=1000000) (S:nP) (a:oA) (c:Nat) (w:wD) (hS : ∀b,S b->b<w.heap.size) (M:EXs S w l a):Calls prog 16 #[.slice a l.length c] w (Y5 S l w):=by
 have X:=dI w;refine Af func16 ntmps16 rfl rfl ?_;refine cS (C1 Pa (cN (C1 Pa (cT (Aj (cS (C1 Pa (cT ?_))))))));refine Ar ?_;refine AJ (ι:=Nat×oA×Nat) (fun x=>[(0,.slice a l.length c),(3,.slice x.2.1 (l.take x.1).length x.2.2),(4,.int .i64 x.1)])
  (fun x w'=>x.1<=l.length/\(x.1=0->x.2.1=none/\x.2.2=0)/\OwnQ Fy w' S w.heap.size 36 (.slice x.2.1 (l.take x.1).length x.2.2) (l.take x.1)/\EXs S w' l a/\Ext w w') (fun x=>l.length-x.1) (0,none,0) sB ⟨bI _,fun _=>⟨rfl,rfl⟩,OwnQ.nil,M,X⟩ ?_
 clear M X;rintro ⟨j,oa,oc⟩ w1 ⟨hj,E,f,M,X⟩;simp only at hj E f;have hz:=X.size;refine CW.sub (m:=[(0,.slice a l.length c),(3,.slice oa (l.take j).length oc),(4,.int .i64 j)]) ?_ sB;have L : ∀g,(cP oa (l.take j).length oc).ownBlock=some g->w.heap.size<=g/\g<w1.heap.size:=fun g h=>⟨f.ge h,f.lt h⟩
 have an:(l.take j).length=j:=by rw [cH];omega
 by_cases V:j<l.length
 . clear E;obtain ⟨kb,ko,rfl,aa,hk⟩:=eW M Ab;have ao:=hS kb aa;obtain ⟨va,vc,pa,pc,ma,mc,O,U⟩:=hk j _ (aY V);have Y:=bE V;clear hk;generalize l.take j=xs at *;generalize l[j]=e at *;have HO:=bA (fun w1=>Yk e va vc pa pc ma mc w1);unfold eP at O HO;refine eK ?_;refine cC rfl (HO.out _) ?_;rintro _ ap ⟨⟨⟩,ab⟩;revert X M f O U;refine eY ab ?_;intro aq X M f O U;refine Au (xS [_,_,_,_,_,_,_,_,_,_,_,_]) rfl ?_ aFh;rintro _ ar ⟨au,rfl,N,av⟩;have aw:=N.blk;have ac:=N.ext;have ae:=N.pos;have af:=N.size;revert X M f O U;refine eE ac ?_;intro X M f O U;refine DP (R:=S) (sh:=Fy) Ac CM rfl rfl rfl rfl Bl rfl rfl rfl f aFh (Blk.row Ag) ⟨_,_,_,_,_,_,rfl,EX.sits.wide Ag (fun b h=>⟨h,fun e=>by have:=L _ e;have:=hS _ h;omega⟩)⟩ Ab Ab rfl ?_;rintro ag Z ah ai aj ak F;have al:=F.size;have X:=Ext.fr X F (fun k hk=>by have:=L _ hk;omega);have M:=EXs.fr M F (fun b hb hT=>by have:=L _ hT;have:=hS _ hb;(try dsimp only at hb);omega);clear f O;have U:=EX.sits.fr U F (fun b hb hT=>by have:=L _ hT;have:=hS _ hb;(try dsimp only at hb);omega);refine C1 Pa (Ah (Ae (Ai (Ad (C1 Mv (C1 V7 (C1 Pa (Ah ?_))))))));exact Aw (j+1,some ⟨_,0,none⟩,_) (by dsimp only;rw [Y];(refine Ak rfl ?_;refine Ak rfl ?_;refine Ak rfl ?_;exact AY)) ⟨by (try dsimp only);omega,fun h=>by simp at h,by dsimp only;rw [Y];assumption,M,X⟩ (by (try dsimp only);omega)
 . obtain rfl:j=l.length:=by omega
   rw [bH] at f L;rw [bH];have ad:l=[]->oa=none/\oc=0:=fun h=>E (by rw [h];rfl)
   clear E;refine eK ?_;refine xR ?_;exact ⟨_,_,rfl,OwnQ.cap f,f,ad,fun g h=>(L g h).1,X⟩
def Uk (l:List EX) (f:l.length<=1000000) (S:nP) (a:oA) (c:Nat) (w:wD) (E:EXs S w l a):Calls prog 16 #[.slice a l.length c] w (GivenR l w):=
 (Wg l f (· < w.heap.size) a c w aFh E.ltA).mono fun _ _ ⟨a,c,h1,h2,h3,_,_,X⟩=>⟨a,c,h1,h2,OwnQ.exs h3 (fun b h=>Nat.lt_of_lt_of_le h X.size) (fun b _ h=>h),X⟩
def Wh {P:Program} {n:Nat} {l:Sl} {S:wD->Prop} {tab:Tab} {t t' ty sz:Nat} {x y:Operand} {p:Bool} (T:TabOk P tab) (h:AD tab t=some (.bool,sz)) (E:ev l x=some (.bool p)) (F:ev l y=some (.bool p)):BA P n l S (.binOp .neq t x y t') ty (.bool false):=by
 unfold BA;intro _ w L pos after g f _;have M:(eqGuard .neq t x y (.bool p) (.bool p)).run P w = .ok () w:=by unfold eqGuard;simp
 have N:P.underlying t=some .bool:=(T _ _ _ h).under;have O:(Op.equal t (.bool p) (.bool p)).run P w = .ok (p==p) w:=by
  show (Op.equalIn (9999+1) t (.bool p) (.bool p)).run P w=_;unfold Op.equalIn;simp [AK N,bG]
 simp [execOp,f.ev E,f.ev F,M,O,binOp]
def ZP (l:List EX):Prop:=l.length<=110 /\ ∀e∈l,e.g.vars.length<=40/\e.g.procs.length<=70
def GreatN (l:List EX) (w:wD):Ending->wD->Prop:=fun e w'=> ∃b:Bool,e = .returned (.bool b)/\(b=false->ZP l)/\Ext w w'
def GreatN.ret {l:List EX} {w w':wD} {e:Ending} (h:GreatN l w e w') : ∃v,e = .returned v:=by
 obtain ⟨_,h,-⟩:=h;exact ⟨_,h⟩
def Wi (l:List EX) (ag:l.length<=9223372036854775807) (hw : ∀e∈l,e.name.length<=9223372036854775807/\e.g.wf) (S:nP) (a:oA) (c:Nat) (w:wD) (f:EXs S w l a) (Y:Errs2 w) (F:TabsF w) :
 Calls prog 3 #[.slice a l.length c] w fun r w'=>r = .returned (.bool true)/\Ext w w':=by
 have X:=dI w;have ax:=F.g;have f:=f.ltA;have HA:=bA (fun L h1 h2=>Ui L h1 h2);have HG:Hid (∀L,EXs (· < w.heap.size) L l a->Calls prog 11 #[.slice a l.length c] L (GreatN l L)):=bA (fun L h=>Uj l ag (fun e Z=>(hw e Z).2) (· < w.heap.size) a c L h);refine Af func3 ntmps3 rfl rfl ?_
 focus
  refine eK ?_;refine cC rfl (HA.out _ Ag Ag) ?_;rintro _ w2 ⟨⟨⟩,x1⟩;revert Y F X f;refine eY x1 ?_;intro z3 Y F X f;refine eK ?_;refine eQ rfl (HG.out _ Ag) ?_;rintro _ w7 ⟨b4,⟨⟨⟩,⟨h5,x6⟩⟩⟩;revert Y F X f;refine eY x6 ?_;intro z8 Y F X f;refine cT ?_;refine CV rfl (fun c9=>?_) (fun c9=>?_);refine eK ?_;refine xR ?_;rotate_left;refine As (Ai (Aj (cS (C1 Mv (C1 Pz (C1 Mv (cT ?_)))))));rotate_left
 . exact ⟨rfl,X⟩
 have hf:=(show _=false->ZP l by assumption) Ag;have ay:=hf.1;have aa : ∀e∈l,e.wf:=fun e Z=>⟨(hw e Z).1,(hw e Z).2,by have:=(hf.2 e Z).1;omega⟩
 have HW:=bA aa;clear HA HG hw hf;refine Ar ?_;refine AJ (ι:=Nat) (fun j=>[(0,.slice a l.length c),(13,.int .i64 l.length),(14,.int .i64 j)])
  (fun j w'=>j<=l.length/\EXs (· < w.heap.size) w' l a/\TabsF w'/\Ext w w') (fun j=>l.length-j) 0 sB ⟨bI _,f,F,X⟩ ?_
 clear f F X Y;rintro j L ⟨hj,f,F,X⟩;by_cases ab:j<l.length
 . obtain ⟨kb,ko,rfl,-,hk⟩:=eW f Ab;obtain ⟨va,vc,pa,pc,ma,mc,M,N⟩:=hk j _ (aY ab);have V:=HW.out _ (bD ab);clear hk aa;generalize l[j]=e at *;have H1:=bA (fun L=>Yk e va vc pa pc ma mc L);have HV:=bA (fun L h=>IE e V (· < w.heap.size) va vc pa pc ma mc L h);have HL:=bA (fun L h=>QI e V (· < w.heap.size) va vc pa pc ma mc L h);clear V;generalize decide e.valid=q at *;unfold eP at M H1 HV HL;refine eK ?_;refine AC (fun wz=>Ext L wz) 10 (.pure 0 (.pure 1 (.pure 2 (.pure 3 (.pure 6 (.pure 7 (.pure 8 (.pure 9 (.fork 4 (.fork 5 .tail .none) .none))))))))) mixed Bl (Aa (Al (Aa (Aa (Al (Aa An)))))) ?_;intro ah ac _;have E:(fun wz=>Ext L wz) ah:=ac;simp only at E;have al:=F;have am:=f;have U:=M;have an:=N;revert F X f M N;refine eY ac ?_;intro az F X f M N;refine ⟨E,?_⟩;refine eT ?_;refine Tq rfl (A6 Ac rfl rfl rfl (fun wz hz=>(dZ U hz)) rfl) ?_;refine eT ?_;refine Tq rfl (A6 Ac rfl rfl rfl (fun wz hz=>(dZ U hz)) rfl) ?_;refine tC rfl rfl (H1.out _) ?_;rintro _ a0 ⟨⟨⟩,ai⟩;revert E F X f M N;refine eY ai ?_;intro a1 E F X f M N;refine ⟨E,?_⟩;refine tC rfl rfl (HV.out _ Ag) ?_;rintro _ ao ⟨⟨⟩,ad⟩;revert E F X f M N;refine eY ad ?_;intro ap E F X f M N;refine ⟨E,?_⟩;refine AF rfl (cC rfl (HL.out _ Ag) ?_);rintro _ aq ⟨⟨⟩,ae⟩;revert F X f M N;refine eY ae ?_;intro ar F X f M N
   refine C1 (Wh Ac rfl rfl rfl) (cT (Da rfl (As (Ae (Ai (Ad (C1 V7 (C1 Mv (Ah ?_)))))))));all_goals exact Aw (j+1) sB ⟨Ab,f,Ag,X⟩ Ab
 . obtain rfl:j=l.length:=by omega
   have HQ:=bA (fun L h=>Uk l Ab (· < w.heap.size) a c L h);have HP:=bA (fun S a c hc L h1 h2=>NH l HW.out S a c Ab hc L h1 h2);have HT:=bA (fun L h=>Uf l HW.out (· < w.heap.size) a c Ab L h);clear HW;generalize Dj l=p at *;obtain ⟨ps,pk⟩:=p;simp only at HP HT;refine eK ?_;refine eQ rfl (HQ.out _ Ag) ?_;rintro _ a2 ⟨a3,⟨a4,⟨⟨⟩,⟨a5,⟨O,aj⟩⟩⟩⟩⟩;revert f F X;refine eY aj ?_;intro a6 f F X;refine cC rfl (HP.out _ _ _ Ag _ Ag Ag) ?_;rintro _ a7 ⟨⟨⟩,ak⟩;revert O f F X;refine eY ak ?_;intro au O f F X;refine eK ?_;refine cC rfl (HT.out _ Ag) ?_;rintro _ av ⟨⟨⟩,af⟩;revert O f F X;refine eY af ?_;intro aw O f F X;refine C1 Mv (C1 Px (C1 Px (C1 Pa (C1 Pa (cN (C1 Mv (C1 Mv (C1 V8 (C1 Mv (A2 rfl rfl rfl (Je (rfl)) (C1 Mv ?_)))))))))));refine A2 rfl rfl rfl (Je (rfl)) (C1 Mv (A2 rfl rfl rfl (Je (rfl)) (C1 V1 (C1 (Qy (rfl)) ?_))));refine eK ?_;refine xR ?_;all_goals exact ⟨AI (decide_eq_true rfl),X⟩
def GN:nP:=fun _=>True
def NS (W:wD) (b o:Nat) : ∀(len i0:Nat),(∀i,i<len -> ∃(t:Nd) (f:oA) (E:Nat),t.wf/\W.cell? ⟨b,o+(i0+i)*4,none⟩=some (.int .u8 t.kind)/\W.cell? ⟨b,o+(i0+i)*4+1,none⟩=some (.int .i64 t.num)/\W.cell? ⟨b,o+(i0+i)*4+2,none⟩=some (str t.name)/\W.cell? ⟨b,o+(i0+i)*4+3,none⟩=some (.slice f t.kids.length E)/\t.sits GN W f) ->
 ∃l:List Nd,l.length=len/\A3 l/\rowSits GN W l (some ⟨b,o+i0*4,none⟩)
 | 0,_,_=>⟨[],rfl,by simp [A3],by simp [rowSits]⟩
 | len+1,i0,h=>by
  obtain ⟨l,U,V,X⟩:=NS W b o len (i0+1) (fun i Y=>by
   have:=h (i+1) Ab;rwa [show i0+(i+1)=i0+1+i from by omega] at this)
  obtain ⟨t,f,E,F,M,h1,N,O,L⟩:=h 0 Ab;rw [Nat.add_zero] at M h1 N O;refine ⟨t::l,by simp [U],by simp [A3,F,V],?_⟩;simp only [rowSits];refine ⟨b,o+i0*4,f,E,rfl,trivial,M,h1,N,O,L,?_⟩;rwa [show o+i0*4+4=o+(i0+1)*4 from by omega]
def Y6 {W:wD} {a:Addr} {cs:lV} (h:W.cells? 0 a 4=some cs) : ∃c0 f c2 c3,cs=[c0,f,c2,c3]/\W.cell? (a.add 0)=some c0/\W.cell? (a.add 1)=some f/\W.cell? (a.add 2)=some c2/\W.cell? (a.add 3)=some c3:=by
 unfold World.cells? at h;rw [AU (bI _)] at h;rw [show List.range 4=[0,1,2,3] from rfl] at h;cases e0:W.cell? (a.add 0)<;>simp [e0] at h
 cases e1:W.cell? (a.add 1)<;>simp [e1] at h
 cases e2:W.cell? (a.add 2)<;>simp [e2] at h
 cases e3:W.cell? (a.add 3)<;>simp [e3] at h
 exact ⟨_,_,_,_,h.symm,rfl,rfl,rfl,rfl⟩
def Ul (b o n m:Nat):((⟨b,o,none⟩:Addr).add n).add m=⟨b,o+n+m,none⟩:=by
 unfold cU;by_cases f:n=0<;>by_cases h:m=0<;>simp [f,h]
def IJ:prog.cellsOf 32=4:=by kernel_rfl
def Wj:prog.cellsOf 5=1:=by kernel_rfl
def Wk:prog.cellsOf 3=1:=by kernel_rfl
def RW:prog.cellsOf 9=1:=by kernel_rfl
def XN:prog.cellsOf 30=1:=by kernel_rfl
def JU {H:Type} (enc:TypeId×Value->H) (W:wD) (sp:Nat->Bool) (N:Nat) : ∀(E:Nat),E<N -> ∀(cs:lV) (x:DataW H×List MemPlace),cG enc prog W 0 sp true E 32 cs=some x ->
 ∃(t:Nd) (a:oA) (c:Nat),cs=[.int .u8 t.kind,.int .i64 t.num,str t.name,.slice a t.kids.length c]/\t.wf/\t.sits GN W a:=by
 induction N with
 | zero=>intro E h;omega
 | succ N ih=>
  intro E hN cs x h;obtain ⟨xs,n,rfl,-,hl,ab,hf⟩:=DataW.trod_struct underlying32 h;rw [IJ] at hl;obtain ⟨c0,V,c2,c3,rfl⟩ : ∃c0 V c2 c3,cs=[c0,V,c2,c3]:=by
   rcases cs with _|⟨c0,_|⟨V,_|⟨c2,_|⟨c3,_|⟨c4,cs⟩⟩⟩⟩⟩
   . simp at hl
   . simp at hl
   . simp at hl
   . simp at hl
   . exact ⟨_,_,_,_,rfl⟩
   . simp at hl
  obtain ⟨y0,y1,y2,y3,rfl⟩ : ∃y0 y1 y2 y3,xs=[y0,y1,y2,y3]:=by
   have f:xs.length=4:=ab;rcases xs with _|⟨c0,_|⟨V,_|⟨c2,_|⟨c3,_|⟨c4,cs⟩⟩⟩⟩⟩
   . simp at f
   . simp at f
   . simp at f
   . simp at f
   . exact ⟨_,_,_,_,rfl⟩
   . simp at f
  . have f0:cG enc prog W 0 sp true n 5 (([c0,V,c2,c3].drop 0).take (prog.cellsOf 5))=some y0:=hf 0 _ rfl;have f1:cG enc prog W 0 sp true n 3 (([c0,V,c2,c3].drop 1).take (prog.cellsOf 3))=some y1:=hf 1 _ rfl;have f2:cG enc prog W 0 sp true n 9 (([c0,V,c2,c3].drop 2).take (prog.cellsOf 9))=some y2:=hf 2 _ rfl;have f3:cG enc prog W 0 sp true n 30 (([c0,V,c2,c3].drop 3).take (prog.cellsOf 30))=some y3:=hf 3 _ rfl;simp only [Wj,Wk,RW,XN,List.drop_zero,List.drop_succ_cons,dE,List.take_zero] at f0 f1 f2 f3;obtain ⟨k,hk,-,wk⟩:=DataW.trod_int (show prog.underlying 5=some (.int .u8) by kernel_rfl) f0;obtain ⟨m,hm,-,wm⟩:=DataW.trod_int underlying3 f1;obtain ⟨s,hs,-,ws⟩:=DataW.trod_string (show prog.underlying 9=some .string by kernel_rfl) f2;simp only [cK,and_true] at hk hm hs;subst hk hm hs;have F:0<=k/\k<=255:=by simpa [Lit.wf,IntKind.min,IntKind.max,IntKind.signed,IntKind.bits] using wk
    have L : -9223372036854775808<=m/\m<=9223372036854775807:=by simpa [Lit.wf,IntKind.min,IntKind.max,IntKind.signed,IntKind.bits] using wm
    have Y:s.data.toList.length<=9223372036854775807:=by
     have:s.data.toList.length=s.size:=by rw [Array.length_toList];rfl
     unfold maxLen at ws;omega
    rcases DataW.trod_slice underlying30 f3 with ⟨hc,-⟩|⟨a,len,cap,M,rest,n',ai,hc,-,-,aj,ae,ak,hE,-⟩
    . simp only [cK,and_true] at hc;subst hc;exact ⟨.mk k m s.data.toList [],none,0,rfl,⟨F.1,F.2,L.1,L.2,Y,Bd,by simp [A3]⟩,by simp [dY,rowSits]⟩
    . simp only [cK,and_true] at hc;subst hc;rw [IJ] at hE;rcases Nat.eq_zero_or_pos len with h0|ac
      . subst h0;exact ⟨.mk k m s.data.toList [],some a,cap,rfl,⟨F.1,F.2,L.1,L.2,Y,Bd,by simp [A3]⟩,by simp [dY,rowSits]⟩
      . have step : ∀i,i<len -> ∃(t:Nd) (Z:oA) (c':Nat),t.wf/\W.cell? ((a.add (i*4)).add 0)=some (.int .u8 t.kind)/\W.cell? ((a.add (i*4)).add 1)=some (.int .i64 t.num)/\W.cell? ((a.add (i*4)).add 2)=some (str t.name)/\W.cell? ((a.add (i*4)).add 3)=some (.slice Z t.kids.length c')/\t.sits GN W Z:=by
         intro i hi;have O:=hE i hi;cases hc4:W.cells? 0 (a.add (i*4)) 4 with
         | none=>
          rw [hc4] at O;have hh:M[i]? = some M[i]:=aY Ab;rw [hh] at O;simp at O
         | some al=>
          rw [hc4,aY Ab] at O;obtain ⟨d0,d1,d2,d3,rfl,U,e1,e2,e3⟩:=Y6 hc4;obtain ⟨t,Z,c',ad,hw,hs⟩:=ih n' Ab _ _ O;simp only [cK,and_true] at ad;obtain ⟨rfl,rfl,rfl,rfl⟩:=ad;exact ⟨t,Z,c',hw,U,e1,e2,e3,hs⟩
        obtain ⟨b,o,X⟩:=a;have aa:X=none:=by
         obtain ⟨t,Z,c',-,U,-⟩:=step 0 ac;simp only [Nat.zero_mul,cU,if_true] at U;unfold World.cell? at U;cases X with
         | none=>rfl
         | some q=>simp at U;split at U<;>simp at U
        subst aa;obtain ⟨l,af,ag,ah⟩:=NS W b o len 0 (fun i hi=>by
         obtain ⟨t,Z,c',hw,U,e1,e2,e3,hs⟩:=step i hi;rw [Ul] at U e1 e2 e3;rw [Nat.zero_add];exact ⟨t,Z,c',hw,U,e1,e2,e3,hs⟩)
        subst af;refine ⟨.mk k m s.data.toList l,some ⟨b,o,none⟩,cap,rfl,⟨F.1,F.2,L.1,L.2,Y,by unfold maxLen at ae;omega,ag⟩,?_⟩;simpa [dY] using ah
def Um {W:wD} {p:Addr} {k:Nat} {cs:lV} (h:W.cells? 0 p k=some cs):Row W p cs/\cs.length=k:=by
 unfold World.cells? at h;rw [AU (bI _)] at h;refine ⟨fun i v f=>?_,by simpa using mapM_some_length h⟩;have L:cs.length=k:=by simpa using mapM_some_length h
 have E:i<k:=by
  rcases bQ i cs.length with F|F
  . omega
  . rw [bS F] at f;cases f
 have:=mapM_some_get h i i (by simp [E]);rw [f] at this;exact this
def Wl (b o i:Nat):(⟨b,o,none⟩:Addr).add i=⟨b,o+i,none⟩:=by unfold cU;by_cases f:i=0<;>simp [f]
def K5 {α H:Type} (enc:TypeId×Value->H) (W:wD) (sp:Nat->Bool) {t e k:Nat} (ht:prog.underlying t=some (.slice e)) (hk:prog.cellsOf e=k) (aa:0<k) (G:lV->α->Prop)
 {E:Nat} (hG : ∀(n:Nat) (cs:lV) (x:DataW H×List MemPlace),n<E->cG enc prog W 0 sp true n e cs=some x -> ∃y,G cs y) {c:Value} {x:DataW H×List MemPlace} (h:cG enc prog W 0 sp true E t [c]=some x) :
 ∃(l:List α) (a:oA) (cap:Nat),c = .slice a l.length cap/\l.length<=9223372036854775807/\Arr GN k (fun w b o y=> ∃cs,Row w ⟨b,o,none⟩ cs/\G cs y) W l a:=by
 rcases DataW.trod_slice ht h with ⟨M,-⟩|⟨a,len,cap,U,rest,n',ab,M,-,-,ac,V,ad,hE,-⟩
 . simp only [cK,and_true] at M;exact ⟨[],none,0,M,Bd,bC rfl⟩
 . simp only [cK,and_true] at M;rw [hk] at hE;unfold maxLen at V;rcases Nat.eq_zero_or_pos len with h0|N
   . subst h0;exact ⟨[],some a,cap,M,Bd,bC rfl⟩
   . have step : ∀i,i<len -> ∃y cs,Row W (a.add (i*k)) cs/\cs.length=k/\G cs y:=fun i X=>by
      have f:=hE i X;cases hc4:W.cells? 0 (a.add (i*k)) k with
      | none=>
       rw [hc4,aY Ab] at f;simp at f
      | some cs=>
       rw [hc4,aY Ab] at f;obtain ⟨r1,r2⟩:=Um hc4;obtain ⟨y,hy⟩:=hG n' cs _ Ab f;exact ⟨y,cs,r1,r2,hy⟩
     obtain ⟨b,o,O⟩:=a;have F:O=none:=by
      obtain ⟨y,cs,r,Y,-⟩:=step 0 N;simp only [Nat.zero_mul,cU,if_true] at r;cases cs with
      | nil=>simp at Y;omega
      | cons v vs=>
       have:=r 0 v rfl;simp only [cU,if_true] at this;exact SR this
     subst F;have Y : ∃l:List α,l.length=len /\ ∀i y,l[i]? = some y -> ∃cs,Row W ⟨b,o+i*k,none⟩ cs/\G cs y:=by
      have key : ∀m,m<=len -> ∃l:List α,l.length=m /\ ∀i y,l[i]? = some y -> ∃cs,Row W ⟨b,o+i*k,none⟩ cs/\G cs y:=by
       intro m
       induction m with
       | zero=>intro _;exact ⟨[],rfl,Bd⟩
       | succ m ih=>
        intro hm;obtain ⟨l,h1,Z⟩:=ih Ab;obtain ⟨y,cs,r,-,hg⟩:=step m Ab;rw [Wl] at r;refine ⟨l++[y],by simp [h1],fun i z L=>?_⟩;rcases bQ i m with X|X
        . rw [dD Ab] at L;exact Z i z L
        . rw [List.getElem?_append_right Ab] at L;obtain rfl:i=m:=by
           rcases bQ m i with h'|h'
           . rw [bS (by simp;omega)] at L;cases L
           . omega
          simp [h1] at L;subst L;exact ⟨cs,r,hg⟩
      exact key len (bJ _)
     obtain ⟨l,h1,Z⟩:=Y;subst h1;exact ⟨l,some ⟨b,o,none⟩,cap,M,Ab,bF ⟨b,o,rfl,trivial,Z⟩⟩
def Z9 {cs:lV} (h:cs.length=3) : ∃a b c,cs=[a,b,c]:=by
 rcases cs with _|⟨a,_|⟨b,_|⟨c,_|⟨d,r⟩⟩⟩⟩<;>simp at h;exact ⟨a,b,c,rfl⟩
def XO {cs:lV} (h:cs.length=6) : ∃a b c d e f,cs=[a,b,c,d,e,f]:=by
 rcases cs with _|⟨a,_|⟨b,_|⟨c,_|⟨d,_|⟨e,_|⟨f,_|⟨g,r⟩⟩⟩⟩⟩⟩⟩<;>simp at h;exact ⟨a,b,c,d,e,f,rfl⟩
def BO {α:Type} {xs:List α} {n i:Nat} (h:xs.length=n) (f:i<n) : ∃y,xs[i]? = some y:=⟨xs[i],aY Ab⟩
def aE:prog.cellsOf 93=3:=by kernel_rfl
def ZQ:prog.cellsOf 28=1:=by kernel_rfl
def aF:prog.cellsOf 90=6:=by kernel_rfl
def aA:prog.cellsOf 29=1:=by kernel_rfl
def aS:prog.cellsOf 34=6:=by kernel_rfl
section
variable {H:Type} (enc:TypeId×Value->H) (W:wD) (sp:Nat->Bool)
def RX {E:Nat} {cs:lV} {x:DataW H×List MemPlace} (h:cG enc prog W 0 sp true E 93 cs=some x) : ∃v:VD,cs=v.cells/\v.wf:=by
 obtain ⟨xs,n,rfl,-,U,f,M⟩:=DataW.trod_struct underlying93 h;rw [aE] at U;obtain ⟨c0,N,c2,rfl⟩:=Z9 U;obtain ⟨y0,e0⟩:=BO (i:=0) f Az;obtain ⟨y1,e1⟩:=BO (i:=1) f Az;obtain ⟨y2,e2⟩:=BO (i:=2) f Az;have V:cG enc prog W 0 sp true n 9 (([c0,N,c2].drop 0).take (prog.cellsOf 9))=some y0:=(M 0 _ rfl).trans e0;have X:cG enc prog W 0 sp true n 5 (([c0,N,c2].drop 1).take (prog.cellsOf 5))=some y1:=(M 1 _ rfl).trans e1;have Y:cG enc prog W 0 sp true n 3 (([c0,N,c2].drop 2).take (prog.cellsOf 3))=some y2:=(M 2 _ rfl).trans e2;simp only [Wj,Wk,RW,List.drop_zero,List.drop_succ_cons,dE,List.take_zero] at V X Y;obtain ⟨s,Z,-,ws⟩:=DataW.trod_string EI V;obtain ⟨k,hk,-,wk⟩:=DataW.trod_int (show prog.underlying 5=some (.int .u8) by kernel_rfl) X;obtain ⟨m,hm,-,wm⟩:=DataW.trod_int underlying3 Y;simp only [cK,and_true] at hk hm Z;subst hk hm Z;have F:0<=k/\k<=255:=by simpa [Lit.wf,IntKind.min,IntKind.max,IntKind.signed,IntKind.bits] using wk
 have L : -9223372036854775808<=m/\m<=9223372036854775807:=by simpa [Lit.wf,IntKind.min,IntKind.max,IntKind.signed,IntKind.bits] using wm
 have O:s.data.toList.length<=9223372036854775807:=by
  have:s.data.toList.length=s.size:=by rw [Array.length_toList];rfl
  unfold maxLen at ws;omega
 exact ⟨⟨s.data.toList,k,m⟩,rfl,O,F.1,F.2,L.1,L.2⟩
end
def JV {α H:Type} (enc:TypeId×Value->H) (W:wD) (sp:Nat->Bool) {t e k:Nat} (M:prog.underlying t=some (.slice e)) (O:prog.cellsOf e=k) (F:0<k) (G:lV->α->Prop)
 {f:Nat} (U : ∀(n:Nat) (cs:lV) (x:DataW H×List MemPlace),n<f->cG enc prog W 0 sp true n e cs=some x -> ∃y,G cs y) {c:Value} {x:DataW H×List MemPlace} (h:cG enc prog W 0 sp true f t [c]=some x) :
 ∃(l:List α) (a:oA) (cap:Nat),c = .slice a l.length cap/\l.length<=9223372036854775807/\Arr GN k (fun w b o y=> ∃cs,Row w ⟨b,o,none⟩ cs/\G cs y) W l a/\l.length<=cap:=by
 obtain ⟨l,a,cap,h1,V,X⟩:=K5 enc W sp M O F G U h;refine ⟨l,a,cap,h1,V,X,?_⟩;rcases DataW.trod_slice M h with ⟨E,-⟩|⟨a',len,N,L,rest,n',Y,E,-,-,Z,-⟩
 . simp only [cK,and_true] at E;rw [h1] at E;simp only [bZ] at E;omega
 . simp only [cK,and_true] at E;rw [h1] at E;simp only [bZ] at E;omega
section
variable {H:Type} (enc:TypeId×Value->H) (W:wD) (sp:Nat->Bool)
def JW {f:Nat} {c:Value} {x:DataW H×List MemPlace} (h:cG enc prog W 0 sp true f 28 [c]=some x) :
 ∃(l:List VD) (a:oA) (cap:Nat),c = .slice a l.length cap/\l.length<=9223372036854775807/\(∀v∈l,v.wf)/\VDs GN W l a/\l.length<=cap:=by
 obtain ⟨l,a,cap,h1,L,E,M⟩:=JV (α:=VD) enc W sp underlying28 aE Az (fun cs v=>cs=v.cells/\v.wf) (fun n cs x _ N=>RX enc W sp N) h;refine ⟨l,a,cap,h1,L,fun v F=>?_,E.mono aFh (fun b o v _ _ ⟨cs,r,e,_⟩=>by subst e;exact r),M⟩;rcases E with rfl|⟨b,o,-,-,O⟩
 . cases F
 . obtain ⟨i,U,rfl⟩:=List.mem_iff_getElem.1 F;obtain ⟨cs,-,-,V⟩:=O i _ (aY U);exact V
def QL {E:Nat} {cs:lV} {x:DataW H×List MemPlace} (h:cG enc prog W 0 sp true E 90 cs=some x) : ∃p:PD,(∃M N O U,cs=p.cells M N O U/\VDs GN W p.params M/\p.body.sits GN W O/\p.params.length<=N)/\p.wf:=by
 obtain ⟨xs,n,rfl,-,hl,f,V⟩:=DataW.trod_struct underlying90 h;rw [aF] at hl;obtain ⟨c0,X,c2,c3,c4,c5,rfl⟩:=XO hl;obtain ⟨y0,e0⟩:=BO (i:=0) f Az;obtain ⟨y1,e1⟩:=BO (i:=1) f Az;obtain ⟨y2,e2⟩:=BO (i:=2) f Az;have f0:cG enc prog W 0 sp true n 9 (([c0,X,c2,c3,c4,c5].drop 0).take (prog.cellsOf 9))=some y0:=(V 0 _ rfl).trans e0;have f1:cG enc prog W 0 sp true n 28 (([c0,X,c2,c3,c4,c5].drop 1).take (prog.cellsOf 28))=some y1:=(V 1 _ rfl).trans e1;have f2:cG enc prog W 0 sp true n 32 (([c0,X,c2,c3,c4,c5].drop 2).take (prog.cellsOf 32))=some y2:=(V 2 _ rfl).trans e2;simp only [ZQ,RW,IJ,List.drop_zero,List.drop_succ_cons,dE,List.take_zero] at f0 f1 f2;obtain ⟨s,hs,-,ws⟩:=DataW.trod_string EI f0;obtain ⟨l,M,N,hc,Y,Z,aa,ab⟩:=JW enc W sp f1;obtain ⟨t,O,U,F,hw,L⟩:=JU enc W sp (n+1) n Ab _ _ f2;simp only [cK,and_true] at hs F;obtain ⟨rfl,rfl,rfl,rfl⟩:=F;subst hs hc;have ac:s.data.toList.length<=9223372036854775807:=by
  have:s.data.toList.length=s.size:=by rw [Array.length_toList];rfl
  unfold maxLen at ws;omega
 exact ⟨⟨s.data.toList,l,t⟩,⟨M,N,O,U,rfl,aa,L,ab⟩,ac,Y,Z,hw⟩
def QM {M:Nat} {cs:lV} {x:DataW H×List MemPlace} (h:cG enc prog W 0 sp true M 34 cs=some x) : ∃(g:PG) (Y:oA) (Z:Nat) (f:oA) (F:Nat) (ma:oA) (mc:Nat),cs=g.cells Y Z f F ma mc/\g.wf/\g.sits GN W Y f ma/\PDsC GN W g.procs f/\g.vars.length<=Z:=by
 obtain ⟨xs,n,rfl,-,hl,E,hf⟩:=DataW.trod_struct underlying34 h;rw [aS] at hl;obtain ⟨c0,c1,c2,c3,c4,c5,rfl⟩:=XO hl;obtain ⟨y0,e0⟩:=BO (i:=0) E Az;obtain ⟨y1,e1⟩:=BO (i:=1) E Az;obtain ⟨y2,e2⟩:=BO (i:=2) E Az;have f0:cG enc prog W 0 sp true n 28 (([c0,c1,c2,c3,c4,c5].drop 0).take (prog.cellsOf 28))=some y0:=(hf 0 _ rfl).trans e0;have f1:cG enc prog W 0 sp true n 29 (([c0,c1,c2,c3,c4,c5].drop 1).take (prog.cellsOf 29))=some y1:=(hf 1 _ rfl).trans e1;have f2:cG enc prog W 0 sp true n 32 (([c0,c1,c2,c3,c4,c5].drop 2).take (prog.cellsOf 32))=some y2:=(hf 2 _ rfl).trans e2;simp only [ZQ,aA,IJ,List.drop_zero,List.drop_succ_cons,dE,List.take_zero] at f0 f1 f2;obtain ⟨l,Y,Z,hc,aa,ab,ac,ad⟩:=JW enc W sp f0;obtain ⟨ps,f,F,hp,ae,N⟩:=K5 (α:=PD) enc W sp underlying29 aF Az (fun cs p=>(∃f F L O,cs=p.cells f F L O/\VDs GN W p.params f/\p.body.sits GN W L/\p.params.length<=F)/\p.wf) (fun n cs x _ hx=>QL enc W sp hx) f1;obtain ⟨t,L,O,U,hw,V⟩:=JU enc W sp (n+1) n Ab _ _ f2;simp only [cK,and_true] at U;obtain ⟨rfl,rfl,rfl,rfl⟩:=U;subst hc hp;have X:PDsC GN W ps f:=N.mono aFh (fun b o p _ _ ⟨cs,r,⟨f,F,L,O,e,h1,h2,h3⟩,_⟩=>by
  subst e;exact ⟨f,F,L,O,r,h1,h2,h3⟩)
 refine ⟨⟨l,ps,t⟩,Y,Z,f,F,L,O,rfl,⟨aa,ae,ab,fun p hp=>?_,hw⟩,⟨ac,X.pds,V⟩,X,ad⟩;rcases N with rfl|⟨b,o,-,-,hh⟩
 . cases hp
 . obtain ⟨i,hi,rfl⟩:=List.mem_iff_getElem.1 hp;obtain ⟨cs,-,-,hw⟩:=hh i _ (aY hi);exact hw
end
section
variable {H:Type} (enc:TypeId×Value->H) (W:wD) (sp:Nat->Bool)
def Wm:prog.cellsOf 3=1:=by kernel_rfl
def XP:prog.cellsOf 9=1:=by kernel_rfl
def Wn:prog.cellsOf 38=3:=by kernel_rfl
def ZR:prog.cellsOf 34=6:=by kernel_rfl
def Yl:prog.cellsOf 40=12:=by kernel_rfl
def ZS {cs:lV} (h:cs.length=3) : ∃a b c,cs=[a,b,c]:=by
 rcases cs with _|⟨a,_|⟨b,_|⟨c,_|⟨d,l⟩⟩⟩⟩<;>simp at h
 exact ⟨_,_,_,rfl⟩
def ZT {cs:lV} (h:cs.length=12) : ∃a b c d e f E F L M N O,cs=[a,b,c,d,e,f,E,F,L,M,N,O]:=by
 obtain ⟨a,b,c,d,e,f,h1⟩:=XO (cs:=cs.take 6) (by rw [cH];omega);obtain ⟨E,F,L,M,N,O,U⟩:=XO (cs:=cs.drop 6) (by rw [List.length_drop];omega);refine ⟨a,b,c,d,e,f,E,F,L,M,N,O,?_⟩;rw [<-cL 6 cs,h1,U];rfl
def Fk {f:Nat} {c:Value} {x:DataW H×List MemPlace} (h:cG enc prog W 0 sp true f 3 [c]=some x) : ∃m:Int,c = .int .i64 m /\ -9223372036854775808<=m/\m<=9223372036854775807:=by
 obtain ⟨m,E,-,F⟩:=DataW.trod_int underlying3 h;simp only [cK,and_true] at E;exact ⟨m,E,by simpa [Lit.wf,IntKind.min,IntKind.max,IntKind.signed,IntKind.bits] using F⟩
def QN {E:Nat} {cs:lV} {x:DataW H×List MemPlace} (h:cG enc prog W 0 sp true E 38 cs=some x) :
 ∃b:BoxV,cs=[.int .i64 b.v,.int .i64 b.l,.int .i64 b.i]/\(-9223372036854775808<=b.v/\b.v<=9223372036854775807)/\(-9223372036854775808<=b.l/\b.l<=9223372036854775807) /\ -9223372036854775808<=b.i/\b.i<=9223372036854775807:=by
 obtain ⟨xs,n,rfl,-,N,f,F⟩:=DataW.trod_struct underlying38 h;rw [Wn] at N;obtain ⟨c0,L,c2,rfl⟩:=ZS N;obtain ⟨X,Y⟩:=BO (i:=0) f Az;obtain ⟨Z,e1⟩:=BO (i:=1) f Az;obtain ⟨y2,e2⟩:=BO (i:=2) f Az;have O:cG enc prog W 0 sp true n 3 (([c0,L,c2].drop 0).take (prog.cellsOf 3))=some X:=(F 0 _ rfl).trans Y;have U:cG enc prog W 0 sp true n 3 (([c0,L,c2].drop 1).take (prog.cellsOf 3))=some Z:=(F 1 _ rfl).trans e1;have V:cG enc prog W 0 sp true n 3 (([c0,L,c2].drop 2).take (prog.cellsOf 3))=some y2:=(F 2 _ rfl).trans e2;simp only [Wm,List.drop_zero,List.drop_succ_cons,dE,List.take_zero] at O U V;obtain ⟨v,rfl,hv⟩:=Fk enc W sp O;obtain ⟨l,rfl,M⟩:=Fk enc W sp U;obtain ⟨i,rfl,hi⟩:=Fk enc W sp V;exact ⟨⟨v,l,i⟩,rfl,hv,M,hi⟩
def QO {E:Nat} {cs:lV} {x:DataW H×List MemPlace} (h:cG enc prog W 0 sp true E 40 cs=some x) :
 ∃(e:EX) (X:oA) (Y:Nat) (Z:oA) (pc:Nat) (ma:oA) (mc:Nat),cs=e.cells X Y Z pc ma mc/\(e.name.length<=9223372036854775807/\e.g.wf)/\e.rng/\e.sits GN W X Z ma Y:=by
 obtain ⟨xs,n,rfl,-,hl,f,F⟩:=DataW.trod_struct underlying40 h;rw [Yl] at hl;obtain ⟨c0,L,c2,c3,c4,c5,M,N,O,c9,ca,U,rfl⟩:=ZT hl;obtain ⟨y0,e0⟩:=BO (i:=0) f Az;obtain ⟨y1,e1⟩:=BO (i:=1) f Az;obtain ⟨y2,e2⟩:=BO (i:=2) f Az;obtain ⟨y3,e3⟩:=BO (i:=3) f Az;obtain ⟨y4,e4⟩:=BO (i:=4) f Az;have f0:cG enc prog W 0 sp true n 9 (([c0,L,c2,c3,c4,c5,M,N,O,c9,ca,U].drop 0).take (prog.cellsOf 9))=some y0:=(F 0 _ rfl).trans e0;have f1:cG enc prog W 0 sp true n 3 (([c0,L,c2,c3,c4,c5,M,N,O,c9,ca,U].drop 1).take (prog.cellsOf 3))=some y1:=(F 1 _ rfl).trans e1;have f2:cG enc prog W 0 sp true n 3 (([c0,L,c2,c3,c4,c5,M,N,O,c9,ca,U].drop 2).take (prog.cellsOf 3))=some y2:=(F 2 _ rfl).trans e2;have f3:cG enc prog W 0 sp true n 38 (([c0,L,c2,c3,c4,c5,M,N,O,c9,ca,U].drop 3).take (prog.cellsOf 38))=some y3:=(F 3 _ rfl).trans e3;have f4:cG enc prog W 0 sp true n 34 (([c0,L,c2,c3,c4,c5,M,N,O,c9,ca,U].drop 6).take (prog.cellsOf 34))=some y4:=(F 4 _ rfl).trans e4;simp only [Wm,XP,Wn,ZR,List.drop_zero,List.drop_succ_cons,dE,List.take_zero] at f0 f1 f2 f3 f4;obtain ⟨s,hs,-,ws⟩:=DataW.trod_string EI f0;obtain ⟨po,rfl,hp⟩:=Fk enc W sp f1;obtain ⟨fu,rfl,hu⟩:=Fk enc W sp f2;obtain ⟨b,hb,aa,ab,ac⟩:=QN enc W sp f3;obtain ⟨g,X,Y,Z,pc,ma,mc,hg,ad,V,ae,af⟩:=QM enc W sp f4;simp only [cK,and_true] at hs hb;obtain ⟨rfl,rfl,rfl⟩:=hb;subst hs
 unfold PG.cells at hg;simp only [cK,and_true] at hg;obtain ⟨rfl,rfl,rfl,rfl,rfl,rfl⟩:=hg;have ag:s.data.toList.length<=9223372036854775807:=by
  have:s.data.toList.length=s.size:=by rw [Array.length_toList];rfl
  unfold maxLen at ws;omega
 exact ⟨⟨s.data.toList,po,fu,b,g⟩,X,Y,Z,pc,ma,mc,rfl,⟨ag,ad⟩,⟨hp,hu,aa,ab,ac⟩,⟨V,ae,af⟩⟩
end
def OP {H:Type} (enc:TypeId×Value->H) (W:wD) (sp:Nat->Bool) {f:Nat} {c:Value} {x:DataW H×List MemPlace} (h:cG enc prog W 0 sp true f 22 [c]=some x) :
 ∃(l:List EX) (a:oA) (cap:Nat),c = .slice a l.length cap/\l.length<=9223372036854775807/\l.length<=cap/\(∀e∈l,(e.name.length<=9223372036854775807/\e.g.wf)/\e.rng)/\EXs GN W l a:=by
 obtain ⟨l,a,cap,h1,X,U,Y⟩:=JV (α:=EX) enc W sp underlying22 Yl Az (fun cs e=> ∃E F L N M O,cs=e.cells E F L N M O/\(e.name.length<=9223372036854775807/\e.g.wf)/\e.rng/\e.sits GN W E L M F) (fun n cs x _ Z=>QO enc W sp Z) h;refine ⟨l,a,cap,h1,X,Y,fun e V=>?_,U.mono aFh (fun b o e _ _ ⟨cs,r,E,F,L,N,M,O,k,_,_,s⟩=>by subst k;exact ⟨E,F,L,N,M,O,r,s⟩)⟩;rcases U with rfl|⟨b,o,-,-,hh⟩
 . cases V
 . obtain ⟨i,hi,rfl⟩:=List.mem_iff_getElem.1 V;obtain ⟨cs,-,E,F,L,N,M,O,-,k1,k2,-⟩:=hh i _ (aY hi);exact ⟨k1,k2⟩
def exs_of_trod {H:Type} (enc:TypeId×Value->H) (W:wD) {r:Reach} {F:Nat} {v:Value} {d:DataW H} {L:List MemPlace} {sp:Nat->Bool} (f:Value.okWide prog W r F 22 v) (h:DataW.Trod enc prog W 0 sp true 22 v d L) :
 ∃(l:List EX) (a:oA) (c:Nat),v = .slice a l.length c/\l.length<=9223372036854775807/\l.length<=c/\(∀e∈l,(e.name.length<=9223372036854775807/\e.g.wf)/\e.rng)/\EXs GN W l a:=by
 obtain ⟨a0,len,cap,rfl⟩:=Go.WideShapes.okWide_slice underlying22 f;obtain ⟨E,M⟩:=h;exact OP enc W sp M
end Bk
namespace Bk
open Go Go.RowKit Go.Proofs
def Prints_d (l:List EX) (a:oA) (c:Nat) (w:wD) (f:l.length<=9223372036854775807) (_:l.length<=c) (h : ∀e∈l,(e.name.length<=9223372036854775807/\e.g.wf)/\e.rng) (E:EXs GN w l a) (F:TabsF w) (L:Errs2 w) :
 Calls prog 3 #[.slice a l.length c] w fun r w'=>r = .returned (.bool true)/\Ext w w':=Wi l f (fun e M=>(h e M).1) GN a c w E L F
open Go.Lib
def MY {H:Type} {enc:TypeId×Value->H} {P:Program} {w:wD} {base:Nat} {sp:Nat->Bool} {E:Bool} {f:Nat} {t e:TypeId} {n:Nat} {cs:lV} {L:List lB} {p:List MemPlace}
 (X:P.underlying t=some (.array n e)) (Y:P.underlying e=some .string) (M:P.cellsOf e=1) (N:P.cellsOf t=n)
 (h:cG enc P w base sp E f t cs=some (.agg (L.map fun z=>.lit (.string z)),p)):cs=L.map str:=by
 cases f with
 | zero=>simp [cG] at h
 | succ f=>
  simp only [cG,X,M,N,Nat.mul_one] at h;split at h
  . rename_i hl;obtain ⟨xs,V,Z⟩:=Option.map_eq_some_iff.1 h;have F:xs.map (·.1)=L.map fun z=>(DataW.lit (.string z):DataW H):=by
     have:=congrArg Prod.fst Z;simpa using this
    have aa:xs.length=n:=by simpa using mapM_length V
    have ab:L.length=n:=by
     have:=congrArg List.length F;simp at this;omega
    apply List.ext_getElem?;intro i;by_cases hi:i<n
    . obtain ⟨b,hb,hf⟩:=mapM_at V i i (by simp [hi]);obtain ⟨z,hc,rfl,_⟩:=DataW.trod_string Y hf;have h1:cs[i]? = some (.string z):=by
       have:=congrArg (·[0]?) hc;simpa [List.getElem?_take,List.getElem?_drop] using this
      have O:(xs.map (·.1))[i]? = some (DataW.lit (.string z.data.toList):DataW H):=by simp [hb]
      rw [F] at O;simp only [List.getElem?_map,Option.map_eq_some_iff,DataW.lit.injEq,Lit.string.injEq] at O;obtain ⟨z',U,rfl⟩:=O;simp [h1,U]
    . rw [bS Ab,bS (by simp;omega)]
  . cases h
def gSym47:prog.globalNamed "backstep/arith.symbols" = some 1:=by kernel_rfl
def gSymT47:(prog.globals[1]?).map (·.type)=some 252:=by kernel_rfl
def XQ:prog.underlying 252=some (.array 43 9):=by kernel_rfl
def XR:prog.cellsOf 252=43:=by kernel_rfl
def Y7:prog.underlying 9=some .string:=by kernel_rfl
def Y8:prog.cellsOf 9=1:=by kernel_rfl
def gErr47:prog.globalNamed "strconv.ErrRange" = some 4:=by kernel_rfl
def gErrT47:(prog.globals[4]?).map (·.type)=some 72:=by kernel_rfl
def gSyn47:prog.globalNamed "strconv.ErrSyntax" = some 3:=by kernel_rfl
def gSynT47:(prog.globals[3]?).map (·.type)=some 72:=by kernel_rfl
def Y9 : ∃f,prog.underlying 72=some (.interface f):=⟨_,underlying72⟩
def gPow47:prog.globalNamed "internal/strconv.uint64pow10" = some 2:=by kernel_rfl
def gPowT47:(prog.globals[2]?).map (·.type)=some 261:=by kernel_rfl
def XS:prog.underlying 261=some (.array 20 240):=by kernel_rfl
def Za:prog.underlying 240=some (.int .u64):=by kernel_rfl
def Zb:prog.cellsOf 240=1:=by kernel_rfl
def XT:prog.cellsOf 261=20:=by kernel_rfl
def Un:(YtjkgmpljepnmiaaGreatDoor.Rows.laid_backstep_arith_symbols:DataW Unit) = .agg (symbols.map fun z=>.lit (.string z)):=rfl
def Uo:(YtjkgmpljepnmiaaGreatDoor.Rows.laid_internal_strconv_uint64pow10:DataW Unit)=tabData .u64 pow10Tab:=rfl
abbrev Wo:List (String×DataW Unit):=[("backstep/arith.symbols",YtjkgmpljepnmiaaGreatDoor.Rows.laid_backstep_arith_symbols),("math/bits.deBruijn32tab",YtjkgmpljepnmiaaGreatDoor.Rows.laid_math_bits_deBruijn32tab),("math/bits.deBruijn64tab",YtjkgmpljepnmiaaGreatDoor.Rows.laid_math_bits_deBruijn64tab),("internal/strconv.uint64pow10",YtjkgmpljepnmiaaGreatDoor.Rows.laid_internal_strconv_uint64pow10),("unicode/utf8.acceptRanges",YtjkgmpljepnmiaaGreatDoor.Rows.laid_unicode_utf8_acceptRanges),("strconv.ErrRange",YtjkgmpljepnmiaaGreatDoor.Rows.laid_strconv_ErrRange),("strconv.ErrSyntax",YtjkgmpljepnmiaaGreatDoor.Rows.laid_strconv_ErrSyntax),("unicode/utf8.first",YtjkgmpljepnmiaaGreatDoor.Rows.laid_unicode_utf8_first)]
def tabs47_of_laid {W:wD} (h:laidMetH prog Wo W) (U:W.ShapedOpen prog):TabsF W/\Errs2 W:=by
 have h':laidMet prog Wo W:=h;obtain ⟨ps,⟨g1,t1,am,f1,p1,q1,V,X,E,F,⟨g2,t2,an,f2,p2,q2,ao,ap,Y,aq,⟨g3,t3,ar,f3,p3,q3,au,av,Z,aw,⟨g4,t4,ax,f4,p4,q4,aa,ab,L,M,⟨g5,t5,ay,f5,p5,q5,az,a0,ac,a1,⟨g6,t6,a2,f6,p6,q6,ad,ae,N,af,⟨g7,t7,a3,f7,p7,q7,ag,ah,O,ai,⟨g8,t8,a4,f8,p8,q8,a5,a6,aj,a7,-,-⟩,-⟩,-⟩,-⟩,-⟩,-⟩,-⟩,-⟩,-⟩:=h';have key : ∀(nm:String) (g:Nat) (v:_),prog.globalNamed nm=some g->W.var? prog nm=some v->g<W.heap.size:=by
  intro nm g v hg hv;rcases bQ g W.heap.size with ak|al
  . exact ak
  . unfold World.var? at hv;rw [hg] at hv;simp [cJ al] at hv
 have k1:=key _ 1 _ Bl E;have k2:=key _ 5 _ Bl Y;have k3:=key _ 6 _ Bl Z;have k4:=key _ 2 _ Bl L;have k5:=key _ 8 _ Bl ac;have k6:=key _ 4 _ Bl N;have k7:=key _ 3 _ Bl O;have k8:=key _ 7 _ Bl aj;have hn:prog.globals.size=9:=by kernel_rfl
 have hg:prog.globals.size<=W.heap.size:=by rw [hn];omega
 obtain rfl:=bO (gSym47.symm.trans V);obtain rfl:=bO (gSymT47.symm.trans X);rw [Un] at F;have e1:=MY XQ Y7 Y8 XR F;obtain rfl:=bO (gPow47.symm.trans aa);obtain rfl:=bO (gPowT47.symm.trans ab);rw [Uo] at M;have e4:=cells_of_tab XS Za Zb XT M;obtain rfl:=bO (gErr47.symm.trans ad);obtain rfl:=bO (gErrT47.symm.trans ae);obtain rfl:=bO (gSyn47.symm.trans ag);obtain rfl:=bO (gSynT47.symm.trans ah);obtain ⟨ms,hu⟩:=Y9;refine ⟨⟨⟨fun i hi=>?_,?_⟩,hg⟩,⟨⟨?_⟩,?_,?_⟩⟩
 . rw [World.var?_cell gSym47 E i,<-Array.getElem?_toList,e1,List.getElem?_map];have:symbols[i]? = some (symbols.getD i []):=by
    rw [dC,aY (show i<symbols.length from hi)];rfl
   rw [this];rfl
 . unfold TabIs;rw [L,<-e4]
 . obtain ⟨f,u,v,hc,-,-⟩:=iface_of_trod hu af;refine ⟨u,v,?_⟩;rw [World.var?_cell gErr47 N 0,<-Array.getElem?_toList,hc];rfl
 . obtain ⟨f,u,v,hc,-,-⟩:=iface_of_trod hu ai;refine ⟨u,v,?_⟩;rw [World.var?_cell gSyn47 O 0,<-Array.getElem?_toList,hc];rfl
 . exact Go.Proofs.cell_of_shapedOpen_int (zero:= #[.int .i64 0]) (t:=3) U (of_decide_eq_true Bl) Bl rfl Bl Bl underlying3
end Bk
