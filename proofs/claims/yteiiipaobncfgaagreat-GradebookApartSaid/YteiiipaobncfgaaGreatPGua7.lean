/- Texts that the proofs of GradebookNone, GradebookFull, GradebookNew, GradebookRanks, GradebookApart need. No condition. (Part 7 of 13.) -/
import Derived.Test.YteiiipaobncfgaaGreatPGua6
set_option linter.unusedSimpArgs false
set_option linter.unusedVariables false
set_option linter.defProp false
set_option maxRecDepth 100000
set_option maxHeartbeats 4000000
open Go.Proofs.Tryz
open List renaming getElem?_eq_getElem->gm,take_succ_eq_append_getElem->gx,getElem_mem->gA,length_cons->gD,take_length->gF,getElem?_eq_none->gG,getElem?_append_left->gJ,length_append->gO,replicate->gT,getElem?_append_right->gU,getElem?_map->gV,drop_eq_getElem_cons->gW,getElem?_cons_zero->gX,getD_eq_getElem?_getD->gY,append_assoc->gZ,length_nil->hH,mem_singleton->ia,length_take->ij,mem_cons->ik,map_cons->im,mem_of_getElem?->io,range->it,getElem?_set_ne->iF,not_mem_nil->iH
open Go.Lib renaming hid->gp
open Or renaming inl->gq,inr->gt
open Bool renaming and_eq_true->gu,false_eq_true->iE
open Go.Result renaming andThen->gw
open Option.some renaming injEq->gy,inj->gB
open Go.IntWalk renaming i64_in->gz
open Nat renaming zero_le->gC,le_refl->gI,lt_or_ge->gK,blt->gM,le_of_ble_eq_true->gS,eq_of_beq_eq_true->ip,zero_add->iu,ble->iy,beq->iA
open Go.Sem renaming run_bind->gE,run_pure->gP
open Go renaming Calls->gH
open Except renaming bind->gL
open Go.Value renaming slice->gN,int->ii,ownBlock->iI
open Go.Region renaming ready->gQ,binds->iw
open Go.Value.slice renaming injEq->gR
open Go.DataW renaming trod->ic
open List.cons renaming injEq->ig
open Go.Builtin renaming zeroCells->iq
open Go.Calls renaming mono->ir
open Array renaming getElem?_eq_none->iv,replicate->iD
open Go.Oper renaming wp->iB
open Go.Addr renaming add->iC
open Go.IntKind renaming wrap->iG
open Go.Op renaming equalIn->iJ
open Bk.Ext renaming refl->iK
open Bk.Fr renaming of_ext->iM,refl->iP,fr->iU
open Bk.Blk renaming fr->iN,cell->iV,ext->iW
open Bk.Row renaming ext->iO,at0->iT,fr->i8
open Bk.Nd renaming size->iX
open Bk.Arr renaming get->i9
open Bk.Stp renaming setCur->ji,items->js
open Bk.CW renaming sub->jl
namespace Bk
open Go Go.RowKit Go.Proofs
attribute [local irreducible] Go.Calls
variable {d:Nat} {n:Int} {s:lB}
section
variable {c:RC} {P P':nP} {w w':wD} {r:Rn} {T:nP}
def Zk (hc:c.fuel<=10000) (IH:EC c d) (b:Bool) {x y z u:Nd} (hx:x.isExpr=true) (hy:y.isBlock=true) (hz:z.isBlock=true) (hu:u.isExpr=true) (O:StOk c.g.procs (.mk 52 n s [x,y,z,u])) (a:oA) (m:Nat) (w:wD)
 (M:AI c.g.procs (d+1) b (.mk 52 n s [x,y,z,u]) r≠.error (-1)) (U:rowSits P w [x,y,z,u] a) (h:Run c P w r) :
 Calls prog 162 #[.pointer (some ⟨c.rb,0,none⟩),.agg #[.int .u8 52,.int .i64 n,str s,.slice a 4 m],.bool b] w (Dx c P (AI c.g.procs (d+1) b (.mk 52 n s [x,y,z,u]) r) w):=by
 have X:=iK w;have Y:=gp h;have F:=iP (λk=> ¬P k) w;clear h;obtain ⟨Z,N⟩:∃Z,Z=AI c.g.procs (d+1) b (.mk 52 n s [x,y,z,u]) r:=⟨_,rfl⟩
 rw [<-N] at M ⊢;replace N:Z=((BZ (if b then u else x) r).bind λp=>(AW (AI c.g.procs d) b (if p.1 then y else z) p.2).bind (BH (if b then x else u) p.1)):=by rw [N];unfold AI;cases b<;>rfl
 have HB:Hid (∀(G:nP) (w1:wD),rowSits G w1 [x,y,z,u] a->Run c G w1 r->Calls prog 187 #[.pointer (some ⟨c.rb,0,none⟩),.agg #[.int .u8 52,.int .i64 n,str s,.slice a 4 m],.bool b] w1 (TX (RunA c G Z w1) (QM G Z w1))):=
  gp (λG w1 h1 h2=>by have h3:=WY (c:=c) (P:=G) (r:=r) hc IH b hx hy hz hu O a m w1 (by rw [<-N];exact M) h1 h2;rw [<-N] at h3;exact h3)
 refine Ad func162 ntmps162 rfl rfl ?_
 focus
  refine cS (eB [_,_,_,_] ?_);intro b1 w2 h4 x5 _ _;revert U X F;refine eE x5 ?_;intro U X F;refine eK ?_;refine A4 (AL AT rfl (HB.out (B9 P w w2) _ (Dd Af (λb h=>gq h)) (Y.out.more X)) (λ_ _ h=>h.ret)) rfl ?_ ?_;rotate_left;intro aa ab ac
  rotate_right 1
  rintro _ ad ⟨ae,⟨⟩,rfl,af,V⟩;clear h4 U;have F:=iU F V (λk hk=>gq (λh=>hk (gq h)));refine Ak (Ah (Bi rfl ?_));rotate_left;refine AS (AF ?_);rotate_left
 . exact EB Af F Y.out.sub (λk=>gq) rfl
 . exact Bx Af F (λk=>gq) aFh
def dM (hc:c.fuel<=10000) (IH:EC c d) (b:Bool) {x y z u:Nd} (hx:x.isExpr=true) (hy:y.isBlock=true) (hz:z.isBlock=true) (hu:u.isExpr=true) (O:StOk c.g.procs (.mk 53 n s [x,y,z,u])) (a:oA) (m:Nat) (w:wD)
 (M:AI c.g.procs (d+1) b (.mk 53 n s [x,y,z,u]) r≠.error (-1)) (U:rowSits P w [x,y,z,u] a) (h:Run c P w r) :
 Calls prog 162 #[.pointer (some ⟨c.rb,0,none⟩),.agg #[.int .u8 53,.int .i64 n,str s,.slice a 4 m],.bool b] w (Dx c P (AI c.g.procs (d+1) b (.mk 53 n s [x,y,z,u]) r) w):=by
 have X:=iK w;have Y:=gp h;have F:=iP (λk=> ¬P k) w;clear h;obtain ⟨Z,N⟩:∃Z,Z=AI c.g.procs (d+1) b (.mk 53 n s [x,y,z,u]) r:=⟨_,rfl⟩
 rw [<-N] at M ⊢;replace N:Z=((BH (if b then u else x) true r).bind (Cw (AW (AI c.g.procs d) b y) (AW (AI c.g.procs d) b z) (if b then x else u) (if b then u else x) d)):=by rw [N];unfold AI;cases b<;>rfl
 have HB:Hid (∀(G:nP) (w1:wD),rowSits G w1 [x,y,z,u] a->Run c G w1 r->Calls prog 188 #[.pointer (some ⟨c.rb,0,none⟩),.agg #[.int .u8 53,.int .i64 n,str s,.slice a 4 m],.bool b] w1 (TX (RunA c G Z w1) (QM G Z w1))):=
  gp (λG w1 h1 h2=>by have h3:=bB (c:=c) (P:=G) (r:=r) hc IH b hx hy hz hu O a m w1 (by rw [<-N];exact M) h1 h2;rw [<-N] at h3;exact h3)
 refine Ad func162 ntmps162 rfl rfl ?_
 focus
  refine cS (eB [_,_,_,_] ?_);intro b1 w2 h4 x5 _ _;revert U X F;refine eE x5 ?_;intro U X F;refine eK ?_;refine A4 (AL AT rfl (HB.out (B9 P w w2) _ (Dd Af (λb h=>gq h)) (Y.out.more X)) (λ_ _ h=>h.ret)) rfl ?_ ?_;rotate_left;intro aa ab ac
  rotate_right 1
  rintro _ ad ⟨ae,⟨⟩,rfl,af,V⟩;clear h4 U;have F:=iU F V (λk hk=>gq (λh=>hk (gq h)));refine Ak (Ah (Bi rfl ?_));rotate_left;refine AS (AF ?_);rotate_left
 . exact EB Af F Y.out.sub (λk=>gq) rfl
 . exact Bx Af F (λk=>gq) aFh
def bC (hc:c.fuel<=10000) (IH:EC c d) (b:Bool) {x y z:Nd} (hx:x.isExpr=true) (hy:y.isBlock=true) (hz:z.isExpr=true) (O:StOk c.g.procs (.mk 54 n s [x,y,z])) (a:oA) (m:Nat) (w:wD)
 (M:AI c.g.procs (d+1) b (.mk 54 n s [x,y,z]) r≠.error (-1)) (U:rowSits P w [x,y,z] a) (h:Run c P w r) :
 Calls prog 162 #[.pointer (some ⟨c.rb,0,none⟩),.agg #[.int .u8 54,.int .i64 n,str s,.slice a 3 m],.bool b] w (Dx c P (AI c.g.procs (d+1) b (.mk 54 n s [x,y,z]) r) w):=by
 have X:=iK w;have Y:=gp h;have F:=iP (λk=> ¬P k) w;clear h;obtain ⟨Z,N⟩:∃Z,Z=AI c.g.procs (d+1) b (.mk 54 n s [x,y,z]) r:=⟨_,rfl⟩
 rw [<-N] at M ⊢;replace N:Z=((Bn r).bind λr=>(B4 (if b then z else x) r).bind λv=>(C3 (·.opens ⟨s,1,0⟩ v) r).bind λr=>(AW (AI c.g.procs d) b y r).bind λr=>(Bn r).bind λr=>(B4 (if b then x else z) r).bind λv=>C3 (·.closes s v) r):=by rw [N];unfold AI;cases b<;>rfl
 have HB:Hid (∀(G:nP) (w1:wD),rowSits G w1 [x,y,z] a->Run c G w1 r->Calls prog 189 #[.pointer (some ⟨c.rb,0,none⟩),.agg #[.int .u8 54,.int .i64 n,str s,.slice a 3 m],.bool b] w1 (TX (RunA c G Z w1) (QM G Z w1))):=
  gp (λG w1 h1 h2=>by have h3:=Zj (c:=c) (P:=G) (r:=r) hc IH b hx hy hz O a m w1 (by rw [<-N];exact M) h1 h2;rw [<-N] at h3;exact h3)
 refine Ad func162 ntmps162 rfl rfl ?_
 focus
  refine cS (eB [_,_,_,_] ?_);intro b1 w2 h4 x5 _ _;revert U X F;refine eE x5 ?_;intro U X F;refine eK ?_;refine A4 (AL AT rfl (HB.out (B9 P w w2) _ (Dd Af (λb h=>gq h)) (Y.out.more X)) (λ_ _ h=>h.ret)) rfl ?_ ?_;rotate_left;intro aa ab ac
  rotate_right 1
  rintro _ ad ⟨ae,⟨⟩,rfl,af,V⟩;clear h4 U;have F:=iU F V (λk hk=>gq (λh=>hk (gq h)));refine Ak (Ah (Bi rfl ?_));rotate_left;refine AS (AF ?_);rotate_left
 . exact EB Af F Y.out.sub (λk=>gq) rfl
 . exact Bx Af F (λk=>gq) aFh
def Zl (hc:c.fuel<=10000) (IH:EC c d) (b:Bool) (hg:ProcsOk c.g) {l:List Nd} {i:Nat} (V:CA c.g.procs s=some i) (hl:l.length<=8) (aa:StOk c.g.procs (.mk 50 n s l)) (a:oA) (m:Nat) (w:wD)
 (M:AI c.g.procs (d+1) b (.mk 50 n s l) r≠.error (-1)) (O:rowSits P w l a) (h:Run c P w r) :
 Calls prog 162 #[.pointer (some ⟨c.rb,0,none⟩),.agg #[.int .u8 50,.int .i64 n,str s,.slice a l.length m],.bool b] w (Dx c P (AI c.g.procs (d+1) b (.mk 50 n s l) r) w):=by
 have X:=iK w;have Y:=gp h;have F:=iP (λk=> ¬P k) w;clear h;obtain ⟨Z,N⟩:∃Z,Z=AI c.g.procs (d+1) b (.mk 50 n s l) r:=⟨_,rfl⟩
 rw [<-N] at M ⊢;replace N:Z=((Bn r).bind λr=>(C3 (·.enters (c.g.procs.getD i ⟨[],[],.mk 0 0 [] []⟩).params (l.map Nd.name)) r).bind λr=>(AW (AI c.g.procs d) (b != decide ((50:Int)=51)) (c.g.procs.getD i ⟨[],[],.mk 0 0 [] []⟩).body r).bind λr=>(Bn r).bind (C3 (·.leaves))):=by rw [N];rw [Mt _ _ _ Ab,V];rfl
 have HB:Hid (∀(G:nP) (w1:wD) (q:Bool) (hq:q=(b != decide ((50:Int)=51))),rowSits G w1 l a->Run c G w1 r->Calls prog 194 #[.pointer (some ⟨c.rb,0,none⟩),.agg #[.int .u8 50,.int .i64 n,str s,.slice a l.length m],.bool q] w1 (TX (RunA c G Z w1) (QM G Z w1))):=
  gp (λG w1 q hq h1 h2=>by subst hq;have h3:=W0 (k:=50) (n:=n) (c:=c) (P:=G) (r:=r) hc hg IH (b != decide ((50:Int)=51)) V hl a m w1 (by rw [<-N];exact M) h1 h2;rw [<-N] at h3;exact h3)
 refine Ad func162 ntmps162 rfl rfl ?_
 focus
  refine cS (eB [_,_,_,_] ?_);intro b1 w2 h4 x5 _ _;revert O X F;refine eE x5 ?_;intro O X F;refine eK ?_;refine C1 (Mw Ac rfl rfl rfl) ?_;refine A4 (AL AT rfl (HB.out (B9 P w w2) _ _ (by cases b<;>rfl) (Dd Af (λb h=>gq h)) (Y.out.more X)) (λ_ _ h=>h.ret)) rfl ?_ ?_;rotate_left;intro ab ac ad
  rotate_right 1
  rintro _ ae ⟨af,⟨⟩,rfl,ag,U⟩;clear h4 O;have F:=iU F U (λk hk=>gq (λh=>hk (gq h)));refine Ak (Ah (Bi rfl ?_));rotate_left;refine AS (AF ?_);rotate_left
 . exact EB Af F Y.out.sub (λk=>gq) rfl
 . exact Bx Af F (λk=>gq) aFh
def Zm (hc:c.fuel<=10000) (IH:EC c d) (b:Bool) (hg:ProcsOk c.g) {l:List Nd} {i:Nat} (V:CA c.g.procs s=some i) (hl:l.length<=8) (aa:StOk c.g.procs (.mk 51 n s l)) (a:oA) (m:Nat) (w:wD)
 (M:AI c.g.procs (d+1) b (.mk 51 n s l) r≠.error (-1)) (O:rowSits P w l a) (h:Run c P w r) :
 Calls prog 162 #[.pointer (some ⟨c.rb,0,none⟩),.agg #[.int .u8 51,.int .i64 n,str s,.slice a l.length m],.bool b] w (Dx c P (AI c.g.procs (d+1) b (.mk 51 n s l) r) w):=by
 have X:=iK w;have Y:=gp h;have F:=iP (λk=> ¬P k) w;clear h;obtain ⟨Z,N⟩:∃Z,Z=AI c.g.procs (d+1) b (.mk 51 n s l) r:=⟨_,rfl⟩
 rw [<-N] at M ⊢;replace N:Z=((Bn r).bind λr=>(C3 (·.enters (c.g.procs.getD i ⟨[],[],.mk 0 0 [] []⟩).params (l.map Nd.name)) r).bind λr=>(AW (AI c.g.procs d) (b != decide ((51:Int)=51)) (c.g.procs.getD i ⟨[],[],.mk 0 0 [] []⟩).body r).bind λr=>(Bn r).bind (C3 (·.leaves))):=by rw [N];rw [Mt _ _ _ Ab,V];rfl
 have HB:Hid (∀(G:nP) (w1:wD) (q:Bool) (hq:q=(b != decide ((51:Int)=51))),rowSits G w1 l a->Run c G w1 r->Calls prog 194 #[.pointer (some ⟨c.rb,0,none⟩),.agg #[.int .u8 51,.int .i64 n,str s,.slice a l.length m],.bool q] w1 (TX (RunA c G Z w1) (QM G Z w1))):=
  gp (λG w1 q hq h1 h2=>by subst hq;have h3:=W0 (k:=51) (n:=n) (c:=c) (P:=G) (r:=r) hc hg IH (b != decide ((51:Int)=51)) V hl a m w1 (by rw [<-N];exact M) h1 h2;rw [<-N] at h3;exact h3)
 refine Ad func162 ntmps162 rfl rfl ?_
 focus
  refine cS (eB [_,_,_,_] ?_);intro b1 w2 h4 x5 _ _;revert O X F;refine eE x5 ?_;intro O X F;refine eK ?_;refine C1 (Mw Ac rfl rfl rfl) ?_;refine A4 (AL AT rfl (HB.out (B9 P w w2) _ _ (by cases b<;>rfl) (Dd Af (λb h=>gq h)) (Y.out.more X)) (λ_ _ h=>h.ret)) rfl ?_ ?_;rotate_left;intro ab ac ad
  rotate_right 1
  rintro _ ae ⟨af,⟨⟩,rfl,ag,U⟩;clear h4 O;have F:=iU F U (λk hk=>gq (λh=>hk (gq h)));refine Ak (Ah (Bi rfl ?_));rotate_left;refine AS (AF ?_);rotate_left
 . exact EB Af F Y.out.sub (λk=>gq) rfl
 . exact Bx Af F (λk=>gq) aFh
def bD (O:c.fuel<=10000) (hg:ProcsOk c.g) (Y:EC c d):WX c (d+1):=by
 intro P b t r a m w N G M U h;cases Ce N with
 | upd X V Z=>exact Lg O d b Ab N G a m w U h
 | swap V Z=>exact Lg O d b Ab N G a m w U h
 | stack X hn V=>exact Lg O d b Ab N G a m w U h
 | tape X V=>exact Lg O d b Ab N G a m w U h
 | call X hn hl hv=>
  rename_i k s l;obtain ⟨i,hi⟩:=Option.isSome_iff_exists.1 (G.calls.1 X);rcases X with rfl|rfl
  . exact Zl O Y b hg hi hl G a m w M U h
  . exact Zm O Y b hg hi hl G a m w M U h
 | branch X V Z hz hu=>
  rcases X with rfl|rfl
  . exact Zk O Y b V Z hz hu G a m w M U h
  . exact dM O Y b V Z hz hu G a m w M U h
 | local_ hn V Z hz=>exact bC O Y b V Z hz G a m w M U h
 | lstack hn V=>exact WZ O Y b V G a m w M U h
def Tx (G:c.fuel<=10000) (M:ProcsOk c.g):∀d,WX c d
 | 0=>λP b t r a m w _ _ h _ _=>absurd (by unfold AI;rfl) h
 | d+1=>bD G M (Tv (Tx G M d))
def W4 (h:c.fuel<=10000) (G:ProcsOk c.g) (d:Nat):EC c d:=Tv (Tx h G d)
end
end Bk
namespace Bk
open Go Go.RowKit
section
variable {P:Program} {n:Nat} {l:Sl} {w:wD} {ty:TypeId} {Q:Exit->Act->wD->Prop} {ops:Array Oper} {rest:List Oper} {pos:String} {after:Array Edge} {A:Ending->wD->Prop} {B:List PanicEntry->wD->Prop} {D:List Deferred}
def U2 {f:FuncId} {fn:Func} {c:Code} {args:lV} {R:Ending->wD->Prop}
 (M:P.funcs[f]? = some fn) (X:fn.ntmps=n) (N:fn.body=some c) (O:iy args.length n=true) (h:CW P n c (bodyPostD P fn R) (Gu 0 args) w):Calls P f args.toArray w R:=by
 unfold CW at h;refine calls_of_wp_defers M N (h _ ?_);have U:args.length<=n:=by simpa using O
 refine ⟨by simp;omega,rfl,λd v V=>?_⟩;obtain ⟨-,G⟩:=F9 d v args 0 V;simp only [Nat.sub_zero] at G;have:d<args.length:=by
  rcases gK d args.length with h|h
  . exact h
  . rw [gG h] at G;cases G
 rw [gm this] at G;simp only [gy] at G;simp [Array.getElem?_append,this,G]
def W5 {x:Operand} {f:Fn} {fi ca:Array Value} (G:ev l x=some (.func f fi ca)) (k:RT P [⟨.fn f ca,fi⟩] n ops Q rest l w):LW P n ops Q (⟨none,.defer ⟨.value x,#[],#[]⟩,ty,pos,after,none⟩::rest) l w:=by
 unfold RT at k;unfold LW;intro a h;unfold wpList;rw [AQ (Bc rfl)];left;have e:(execOp a.eval ⟨none,.defer ⟨.value x,#[],#[]⟩,ty,pos,after,none⟩).run P w = .ok (.defer ⟨.fn f ca,fi⟩) w:=by
  simp [execOp,resolve,h.ev G,Deferred.ofValue,gw]
 unfold iB;rw [e];refine k _ ⟨⟨h.size,rfl,h.has⟩,?_⟩;show _::a.defers=_;rw [h.defers]
def U3 {f:FuncId} {x:Operand} {fi ca:lV} {xs:List Operand} {tys:Array TypeId} {vs:lV} {d:Nat} (U:BT P f=true) (V:ev l x=some (.func (.func f) fi.toArray ca.toArray)) (N:evs l xs=some vs) (X:gM d n=true) (C:Calls P f (fi++vs++ca).toArray w (TX A B))
 (Y:∀e w1,A e w1 -> ∃v,e = .returned v) (k:∀v w1,A (.returned v) w1->RT P D n ops Q rest ((d,v)::l) w1) (O:∀c w1,B c w1->Jq D n Q (.panic c) l w1) :
 RT P D n ops Q (⟨some d,.call ⟨.value x,xs.toArray,tys⟩,ty,pos,after,none⟩::rest) l w:=by
 unfold RT at k ⊢;unfold Jq at O;intro a M;unfold wpList;rw [AQ (Bc rfl)];left;have G:xs.map a.eval=vs:=M.1.evs N;have e:(execOp a.eval ⟨some d,.call ⟨.value x,xs.toArray,tys⟩,ty,pos,after,none⟩).run P w = .ok (.enter f (fi++vs++ca).toArray) w:=by
  simp only [execOp,resolve,M.ev V,Deferred.ofValue,gE,gP,gw,invoke];rw [Dy U];simp [<-G]
 unfold iB;rw [e];refine ir C λe w1 h=>?_
 rcases h with h|⟨c,rfl,h⟩
 . obtain ⟨v,rfl⟩:=Y e w1 h;exact k v w1 h _ (M.put X v)
 . exact O c w1 h a M
def MA {K:Act->wD->Prop} {c:List PanicEntry} (h:Jq D n Q (.panic c) l w):Jq D n (Exit.then K Q) (.panic c) l w:=by unfold Jq at h ⊢;exact h
def NM {fn:Func} {R:Ending->wD->Prop} {e:Exit} {u u':FrameMode} {f:FuncId} {fi ca:lV} {t G sz:Nat} {s:Sk} {tab:Tab} {b:Nat} (N:(e = .ret/\u = .returning) \/ ∃c,e = .panic c/\u = .panicking c) (V:BT P f=true)
 (h:fn.results = #[.cell t G]) (T:TabOk P tab) (X:Az tab G=some (s,sz)) (Y:s.agg=false) (Z:look l t=some (.pointer (some ⟨b,0,none⟩))) (hu:settle u' = .returning)
 (C:CallsD P f (fi++ca).toArray u w λe O w1=>O=u'/\e = .returned (.tuple #[]) /\ ∃v,Blk w1 b [v]/\R (.returned v) w1):Jq [⟨.fn (.func f) ca.toArray,fi.toArray⟩] n (bodyPostD P fn R) e l w:=by
 unfold Jq;intro a U;have key:Leaves P fn a.tmps R a.defers u w:=by
  rw [U.2];refine leaves_cons (f:=f) (args:=(fi++ca).toArray) ?_ ?_ (CallsD.mono C ?_)
  . rcases N with ⟨-,rfl⟩|⟨c,-,rfl⟩<;>simp
  . simp only [invoke];rw [Dy V];simp
  . rintro e1 O w1 ⟨rfl,rfl,v,M,hR⟩;simp only;rw [hu];exact ⟨v,PU h T X Y (U.1.has t _ Z) (M.cell rfl),hR⟩
 rcases N with ⟨rfl,rfl⟩|⟨c,rfl,rfl⟩<;>exact key
def MB {f:FuncId} {fn:Func} {t d id:Nat} {V Y:TypeId} {N O:String} {G M:Array Edge} {y:Code} {args:lV} {u u':FrameMode} {v:Value} {R:Ending->wD->Prop}
 (hf:P.funcs[f]? = some fn) (hn:fn.ntmps=n) (hb:fn.body=some (.seq (.region id #[⟨some t,.call ⟨.builtin .recover,#[],#[]⟩,V,N,G,none⟩,⟨some d,.assign (.tmp t),Y,O,M,none⟩] false) y)) (hl:iy args.length n=true) (ht:gM t n=true) (hd:gM d n=true)
 (hr:∀(c:Frame) (cs:List Frame),c.mode=u->recoverD (c::cs)=some (v,{ c with mode:=u' }::cs)\/(recoverD (c::cs)=none/\v = .nilIface/\u'=u))
 (h:CW P n y (bodyPost P fn R) ((d,v)::(t,v)::Gu 0 args) w):CallsD P f args.toArray u w λe Z w'=>Z=u'/\R e w':=by
 unfold CW at h;refine callsD_of_wpS hf hb λc₀ cs hu=>wpS_seq (wpS_region ?_)
 have aa:Env n (Gu 0 args) { tmps:=args.toArray++iD (fn.ntmps-args.toArray.size) undef,defers:=[] }:=by
  have ae:args.length<=n:=by simpa using hl
  refine ⟨by simp;omega,rfl,λd v hv=>?_⟩;obtain ⟨-,U⟩:=F9 d v args 0 hv;simp only [Nat.sub_zero] at U;have:d<args.length:=by
   rcases gK d args.length with h|h
   . exact h
   . rw [gG h] at U;cases U
  rw [gm this] at U;simp only [gy] at U;simp [Array.getElem?_append,this,U]
 generalize ({ tmps:=args.toArray++iD (fn.ntmps-args.toArray.size) undef,defers:=[] }:Act)=a at *;have ab:∀(c1:Frame),c1={ c₀ with mode:=u' }->wpOpsS P #[⟨some t,.call ⟨.builtin .recover,#[],#[]⟩,V,N,G,none⟩,⟨some d,.assign (.tmp t),Y,O,M,none⟩] (Exit.thenS (y.wpS P (bodyPostS P fn c₀ cs λe Z w'=>Z=u'/\R e w')) (bodyPostS P fn c₀ cs λe Z w'=>Z=u'/\R e w')) [1] (a.put (some t) v) (c1::cs) w:=λc1 ac=>by
  have he:=aa.put ht v;have ad:(a.put (some t) v).eval (.tmp t)=v:=he.ev (by simp [ev,Hz]);simp only [wpOpsS,List.getElem?_toArray,List.getElem?_cons_succ,gX];rw [AQ (Bc rfl)];simp only [execOp,gP,ad,Oper.upon];refine wpS_of_wp (wp_mono (h _ (he.put hd v)) λe a1 w1 X=>?_);subst ac;cases e with
  | normal=>
   obtain ⟨q1,v1,q2,q3⟩:=X;exact ⟨q1,u',rfl,v1,q2,rfl,q3⟩
  | ret=>
   obtain ⟨q1,v1,q2,q3⟩:=X;exact ⟨q1,u',rfl,v1,q2,rfl,q3⟩
  | panic c=>
   obtain ⟨q1,q3⟩:=X;exact ⟨q1,u',rfl,rfl,q3⟩
  | outgrown=>exact ⟨u',rfl,X⟩
  | exit i=>exact X
  | goto i=>exact X
 simp only [List.size_toArray,gD,hH,show it 2=[0,1] from rfl];unfold wpOpsS;simp only [List.getElem?_toArray,gX];rw [AQ (Bc rfl)];have e1:(execOp a.eval ⟨some t,.call ⟨.builtin .recover,#[],#[]⟩,V,N,G,none⟩).run P w = .ok .recover w:=by
  simp [execOp,resolve,invoke,builtin,gw]
 rw [e1];simp only;rcases hr c₀ cs hu with h1|⟨h1,U,h3⟩
 . rw [h1];exact ab _ rfl
 . rw [h1];subst U;refine ab _ ?_;rw [h3,<-hu]
end
open Go.Proofs
attribute [local irreducible] Go.Calls
section
variable {c:RC} {P P':nP} {w w':wD} {r:Rn} {T:nP}
def Run.away (h:Run c P w r) (x:Fr T w w') (V:∀k,T k->P k /\ ¬c.S k):Run c P w' r:=by
 obtain ⟨ρ,κ,X,Y,Z,h4,⟨es,h5,h6⟩,h7,h8,h9,O,M⟩:=h;have hs:=x.size;have U:∀k,dK (ρ k) -> ¬T k:=λk G N=>(M k (V k N).1).1 G
 exact ⟨ρ,κ,X,Y,Z,h4.fr x (U _ (by rw [X];exact gt (gq rfl))),⟨es,h5,h6.fr x (U _ (by rw [Y];exact gt (gt rfl)))⟩,h7.fr x (λk G N=>U k (gq N) G),h8,h9.frS x (λk G N=>(V k N).2 G),O,λk G=>⟨(M k G).1,by have:=(M k G).2;omega⟩⟩
def W6 (h:Nat) (w:wD) (G:Blk w h [.slice none 0 0,.bool false]):Calls prog 159 #[.pointer (some ⟨h,0,none⟩)] w λe w'=>e = .returned (.int .i64 0)/\Ext w w':=by
 have X:=iK w;refine Ad func159 ntmps159 rfl rfl (eK ?_);refine C1 (A0 Ac rfl rfl) (kR ?_);exact ⟨rfl,X⟩
def W7 (h G M:Nat) (w:wD):CallsD prog 160 #[.pointer (some ⟨h,0,none⟩),.pointer (some ⟨G,0,none⟩),.pointer (some ⟨M,0,none⟩)] .returning w λe u w'=>u = .returning/\e = .returned (.tuple #[])/\Ext w w':=by
 have X:=iK w;refine MB (args:=[_,_,_]) (v:=.nilIface) func160 ntmps160 rfl rfl rfl rfl (λc cs N=>gt ⟨by simp [recoverD,N],rfl,rfl⟩) (eK ?_);refine C1 (TZ Ac rfl rfl) (eK ?_);refine EF rfl ?_;exact ⟨rfl,X⟩
def Si (b2 b5 N X:Nat) (V e0:Int) (w:wD) (h2:Blk w b2 [.pointer (some ⟨X,0,none⟩)]) (Y:Blk w X [.slice none 0 0,.bool false]) (h5:Blk w b5 [.int .i64 0]) (M:Blk w N [.int .i64 e0]) (ad:N<w.heap.size) :
 CallsD prog 160 #[.pointer (some ⟨b2,0,none⟩),.pointer (some ⟨b5,0,none⟩),.pointer (some ⟨N,0,none⟩)] (.panicking (Mx V)) w λe u w'=>u = .panicking [{ v:=.iface 240 (.agg #[.int .i64 V]),recovered:=true }]/\e = .returned (.tuple #[])/\Blk w' N [.int .i64 V]/\Fr (· = N) w w':=by
 have F:=iP (· = N) w;have HL:=gp (λw1 h=>W6 X w1 h);refine MB (args:=[_,_,_]) (v:=.iface 240 (.agg #[.int .i64 V])) func160 ntmps160 rfl rfl rfl rfl (λc cs hc=>gq (by simp [recoverD,hc,Mx])) (eK ?_);refine C1 (VK Ac rfl rfl) (eK ?_);refine Aq (λZ=>Ext w Z) 3 (.pure 0 (.pure 2 (.fork 1 .tail .none))) mixed AT (Aa (Aa Ag)) ?_;intro w1 x2 _;have G:(λZ=>Ext w Z) w1:=x2;simp only at G;have O:=h2;have U:=h5;revert Y M F;refine eE x2 ?_;intro Y M F;refine ⟨G,?_⟩;refine Tq rfl (Db O) (Tq rfl (Db U) (tC rfl rfl (HL.out _ Af) ?_));rintro _ w7 ⟨⟨⟩,x6⟩;revert G M F;refine eE x6 ?_;intro G M F;refine ⟨G,?_⟩;refine At rfl (eK ?_);refine C1 (Rz AT rfl) (eK ?_);refine xA [_] ?_;intro b9 ae aa;refine eI [_] aa ?_;intro af ag ab _ _;revert M F;refine eE ab ?_;intro M F;refine eK ?_;refine eS [_] M ?_;intro ah ai ac _;clear M h2 Y h5;have F:=F.fr ac Ab;refine Ak (Bi rfl ?_);exact ⟨rfl,Af,F⟩
def bE (c:RC) (P:nP) (Z:Except Int Rn) (w:wD):Ending->wD->Prop:=λe w'=> ∃er,e = .returned (.int .i64 er)/\((er=0 /\ ∃r,Z = .ok r/\Run c P w' r)\/(er≠0/\Z = .error er))/\Fr (λk=> ¬P k) w w'
def U4 {V:Nat} {f:FuncId} {ca:lV} (hb:BT prog f=true) {Z:Except Int Rn} (hz:Z≠.error 0) (w:wD) (hP:∀k,P k->k<w.heap.size) (hS:∀k,c.S k->P k) (aa:P V) (M:Blk w V [.slice none 0 0,.bool false])
 (HC:∀w1,Ext w w1->Calls prog f ca.toArray w1 (Dx c (B9 P w w1) Z w1)) :
 Calls prog 119 #[.pointer (some ⟨V,0,none⟩),.func (.func f) #[] ca.toArray] w (bE c P Z w):=by
 have X:=iK w;have HL:=gp (λw1 h=>W6 V w1 h);have HC:=gp HC;refine U2 (args:=[_,_]) func119 ntmps119 rfl rfl (cS (eB [_] ?_));intro Y w2 O x5 p6 z7;revert M X;refine eE x5 ?_;intro M X;refine eA [_] ?_;intro b8 w9 G ab ag ah;revert O M X;refine eE ab ?_;intro O M X;refine eK ?_;refine C1 (A0 Ac rfl rfl) (eK ?_);refine C1 (Jc Ac rfl rfl) (kC (HL.out _ Af) ?_);rintro _ ai ⟨⟨⟩,ac⟩;revert G O M X;refine eY ac ?_;intro aj G O M X;refine xA [_] ?_;intro N ak ad;refine eI [_] ad ?_;intro al ae af am an;revert G O M X;refine eE af ?_;intro G O M X;refine cT (Aj (Al (Cy (BW rfl) rfl (W5 rfl (GO (Dw (Ig (Eu (Fs (Ar rfl) rfl (U3 (fi:=[]) (vs:=[]) (ca:=ca) (xs:=[]) hb rfl rfl rfl (HC.out _ X) (λ_ _ h=>h.ret) ?_ ?_))))))))))
 . rintro v w1 ⟨r,he,hr,hv,F⟩;obtain rfl:=Ending.returned.inj he;have h8:=G.fr F (λh=>h (gt ⟨Ab,Ab⟩));refine GO (Dw (Ig (Eu (JX Ac rfl rfl rfl rfl rfl h8 λw3 h9 F2=>GO (Dw (Jr (NM (u':=.returning) (fi:=[]) (ca:=[.pointer (some ⟨Y,0,none⟩),.pointer (some ⟨N,0,none⟩),.pointer (some ⟨b8,0,none⟩)]) (gq ⟨rfl,rfl⟩) AT rfl Ac rfl rfl rfl rfl ((W7 Y N b8 w3).mono ?_))))))));rintro e u w4 ⟨rfl,rfl,x4⟩;have F3:Fr (λk=> ¬P k) w w4:=(((iM X).fr F (λk U=>gq (λh=>U (gq h)))).fr F2 (λk U=>gq (λh=>by have:=hP k h;omega))).ext x4;exact ⟨rfl,rfl,_,h9.ext x4,0,rfl,gq ⟨rfl,r,hr,((hv.away F2 (λk U=>⟨gt ⟨Ab,Ab⟩,λh=>by have:=hP k (hS k h);omega⟩)).ext x4).less hS (λk=>gq)⟩,F3⟩
 . rintro ch w1 ⟨er,he,rfl,F⟩;have h8:=G.fr F (λh=>h (gt ⟨Ab,Ab⟩));refine MA (NM (u':=.panicking [{ v:=.iface 240 (.agg #[.int .i64 er]),recovered:=true }]) (fi:=[]) (ca:=[.pointer (some ⟨Y,0,none⟩),.pointer (some ⟨N,0,none⟩),.pointer (some ⟨b8,0,none⟩)]) (gt ⟨_,rfl,rfl⟩) AT rfl Ac rfl rfl rfl rfl ((Si Y N b8 V er 0 w1 (O.fr F (λh=>h (gt ⟨Ab,Ab⟩))) (M.fr F (λh=>h (gq aa))) (ae.fr F (λh=>h (gt ⟨Ab,Ab⟩))) h8 h8.lt).mono ?_));rintro e u w4 ⟨rfl,rfl,h9,F2⟩;have F3:Fr (λk=> ¬P k) w w4:=((iM X).fr F (λk U=>gq (λh=>U (gq h)))).fr F2 (λk U=>gq (λh=>by have:=hP k h;omega));exact ⟨rfl,rfl,_,h9,er,rfl,gt ⟨λe=>hz (e▸he),he⟩,F3⟩
end
structure SV.small (s:SV):Prop where
 few:s.cells.length<=1000000
 each:∀xs∈s.cells,xs.length<=1000000
 tin:s.tin.length<=1000000
 tout:s.tout.length<=1000000
structure ResV where
 st:SV
 steps:Int
 err:Int
abbrev ResV.row (r:ResV) (a:oA) (c:Nat) (ta:oA) (tc:Nat) (oa:oA) (oc:Nat):lV:=[.slice a r.st.cells.length c,.slice ta r.st.tin.length tc,.slice oa r.st.tout.length oc,.int .i64 r.steps,.int .i64 r.err]
end Bk
namespace Bk
open Go Go.RowKit Go.Proofs
variable {n m:Nat} {G:List (Int×Int)} {w W:wD} {Q:Exit->Act->wD->Prop} {P:Program} {J:(nP)->List SV->wD->Prop} {F:List (List Int)} {vs:List VD} {xs:List Int} {R:Ending->wD->Prop} {h:Int} {e:Ending} {S:List SV} {l:Sl} {st:Stp} {A:nP} {x:Operand} {s:SV} {α:Type} {b:Value} {lb:lV} {g:PG}
def CG (vs:List VD) (s:SV) (j:Nat):Stp:=⟨s.cells.take j,⟨vs.take j,it j,0⟩,[],s.tin,s.tout⟩
def NewS (B sb:Nat) (st:Stp) (w:wD):Prop:= ∃ ρ κ,(∀k,k<B->ρ k = .none)/\StoreAt ρ κ w sb st
def fD (B sb:Nat) (st:Stp) (w:wD):Ending->wD->Prop:=λe w'=>e = .returned (.tuple #[])/\NewS B sb st w'/\Fr (λk=>B<=k) w w'
def W8 {B sb:Nat} (h:NewS B sb st w) (O:st.calls=[]) (hl:∀c∈st.base.cells,c<st.heap.length) (hv:st.base.vars.length<=1000000) (hn:st.base.cells.length<=1000000) (hB:B<=sb) (ap:B<=w.heap.size)
 (v:VD) (xs:List Int) (u:Value) (cb:Nat) (w1:wD) (X:Ext w w1) (af:w.heap.size<=cb) (hb:Blk w1 cb [u]) (hu:OwnI w1 w.heap.size u xs) (ag:u.ownBlock≠some cb) :
 Calls prog 158 #[.pointer (some ⟨sb,0,none⟩),v.val,.pointer (some ⟨cb,0,none⟩)] w1 (fD B sb { st with base:=⟨st.base.vars++[v],st.base.cells++[st.heap.length],st.base.locals⟩,heap:=st.heap++[xs] } w1):=by
 obtain ⟨ρ,κ,h0,h⟩:=h;have V:st.cur=st.base:=by unfold Stp.cur;rw [O];rfl
 obtain ⟨fb,fo,pre,post,T,vv,vc,ah,ab,M,hf,U⟩:=h.open;obtain ⟨rfl,rfl⟩:fb=sb/\fo=0:=by
  obtain ⟨_,_,_,_,_,_,-,h2|h2⟩:=ah
  . exact h2.2
  . rw [O] at h2;exact absurd h2.1 AN
 have N:st.calls.length=0:=by rw [O];rfl
 rw [N,V] at hf;rw [V] at M;have ai:fb<w.heap.size:=M.1.blk.lt;have ac:=hb.lt;obtain ⟨Y,aj,Z,ad⟩:∃Y,w.heap.size<=Y/\Y<w1.heap.size /\ ∀k,u.ownBlock=some k->k=Y:=by
  cases hu0:u.ownBlock with
  | none=>exact ⟨cb,af,ac,λk G=>by cases G⟩
  | some g=>exact ⟨g,(hu.lt hu0).1,(hu.lt hu0).2,λk G=>(gB G).symm⟩
 obtain ⟨k1,k2,k3,k4,k5,k6⟩:=QJ (κ:=κ) (n:=st.heap.length) hf h.fresh ai ab (λc O=>by have:=hl c O;omega) w1 cb Y X af aj ac Z;have ak:Win w1 fb 0 [vv,vc,.int .i64 st.base.locals] pre post T:=M.ext X;have aa:=Tp (κ:=O3 κ st.heap.length cb) st.base v st.heap.length fb 0 pre post T vv vc (.int .i64 st.base.locals) w1 k1 ak k2 k3 hv hn;rw [show JP (O3 κ st.heap.length cb) st.heap.length = .pointer (some ⟨cb,0,none⟩) by unfold JP O3;rw [AQ rfl]] at aa;refine aa.mono ?_;rintro e w' ⟨al,am,ρ',rfl,q1,q2,q3,q4,q5⟩;have eo:∀b,b<w.heap.size->FD ρ st.heap.length cb Y b=ρ b:=λb hb=>by unfold FD;rw [AB Ab,AB Ab]
 have hr:Ro ρ ρ' w:=λb hb=>by rw [q1 b Ab,eo b hb]
 have F:Fr (Fa ρ st.calls.length fb) w w':=(iM X).fr q5 (λk G=>by rw [N];exact k4 k G);have hκ:∀c,c≠st.heap.length->O3 κ st.heap.length cb c=κ c:=λc O=>AB O
 have h1:=U ρ' (O3 κ st.heap.length cb) w' ⟨st.base.vars++[v],st.base.cells++[st.heap.length],st.base.locals⟩ al am hr q2 (λf hf c an=>hκ c (by rw [O] at hf;obtain rfl:=ia.1 hf;have:=hl c an;omega)) (λc O=>hκ c Ab) F q3 (by rw [N];exact q4);have ao:st.setCur ⟨st.base.vars++[v],st.base.cells++[st.heap.length],st.base.locals⟩={ st with base:=⟨st.base.vars++[v],st.base.cells++[st.heap.length],st.base.locals⟩ }:=by unfold ji;rw [AQ O]
 rw [ao] at h1;have ae:CellAt ρ' (O3 κ st.heap.length cb) w' st.heap.length xs:=by
  refine ⟨?_,u,?_,?_,λk G=>?_⟩
  . rw [show O3 κ st.heap.length cb st.heap.length=cb from AQ rfl,q1 cb ac];exact AQ rfl
  . rw [show O3 κ st.heap.length cb st.heap.length=cb from AQ rfl];exact hb.fr q5 k5
  . exact (hu.low (λ_ _=>gC _)).fr q5 (λk G hS=>by rw [ad k G] at hS;exact k6 hS)
  . rw [ad k G,q1 Y Z];unfold FD;rw [AB (λe=>ag (by rw [G,ad k G,e])),AQ rfl]
 refine ⟨rfl,⟨ρ',O3 κ st.heap.length cb,λk G=>by rw [hr k Ab,h0 k G],h1.newCell ae⟩,q5.weaken (λk G=>?_)⟩;rcases gK k B with h|h
 . exfalso;have e1:FD ρ st.heap.length cb Y k = .none:=by rw [eo k Ab,h0 k h]
   unfold Fa at G;rw [e1] at G;rcases G with rfl|G|G
   . omega
   . cases G
   . cases G
 . exact h
attribute [local irreducible] Go.Calls
def U5 (vs:List VD) (s:SV) (j:Nat) (G:j<vs.length) (h:j<s.cells.length):({ CG vs s j with base:=⟨(CG vs s j).base.vars++[vs[j]],(CG vs s j).base.cells++[(CG vs s j).heap.length],(CG vs s j).base.locals⟩,heap:=(CG vs s j).heap++[s.cells[j]] }:Stp)=CG vs s (j+1):=by
 simp only [CG,ij,Nat.min_eq_left (Nat.le_of_lt h),gx G,gx h,List.range_succ]
def CloneI (B:Nat) (xs:List Int) (w:wD):Ending->wD->Prop:=λe w'=> ∃a c,e = .returned (.slice a xs.length c)/\OwnI w' B (.slice a xs.length c) xs/\(∀k,(gN a xs.length c).ownBlock=some k->k<w'.heap.size)/\Ext w w'
def CloneI.ret {B:Nat} {w':wD} (h:CloneI B xs w e w'):∃v,e = .returned v:=by
 obtain ⟨_,_,h,-⟩:=h;exact ⟨_,h⟩
def W9 (xs:List Int) (M:xs.length<=1000000) (B:Nat) (S:nP) (a:oA) (c:Nat) (w:wD) (N:B<=w.heap.size) (h:Rows S w (AX xs) a):Calls prog 88 #[.slice a xs.length c] w (CloneI B xs w):=
 (Fo xs M a c w (F6 h)).mono λ_ _ ⟨a,c,h1,h2,h3,h4⟩=>⟨a,c,h1,h2.low (λk G=>by have:=h3 k G;omega),λk G=>(h3 k G).2,h4⟩
def FitsP.each (h:FitsP vs s):∀xs∈s.cells,xs.length<=1000:=λxs M=>by
 obtain ⟨⟨X,N⟩,Y,Z,h5,O⟩:=h;obtain ⟨i,U,rfl⟩:=List.mem_iff_getElem.1 M;have G:=O i vs[i] s.cells[i] (gm Ab) (gm U);have V:=N vs[i] (gA _);unfold MV CT at G;unfold IR at V;split at G
 . exact G
 . split at G<;>omega
def FitsP.small {vs:List VD} {s:SV} (h:FitsP vs s):s.small:=
 ⟨by have:=h.1.1;have:=h.2.1;omega,λxs G=>by have:=h.each xs G;omega,by have:=h.2.2.1;omega,by have:=h.2.2.2.1;omega⟩
def NewR (vs:List VD) (s:SV) (w:wD):Ending->wD->Prop:=λe w'=> ∃sb,e = .returned (.tuple #[.pointer (some ⟨sb,0,none⟩),.int .i64 0])/\NewS w.heap.size sb (CG vs s vs.length) w'/\w.heap.size<=sb/\Ext w w'
def NewR.ret {w':wD} (h:NewR vs s w e w'):∃v,e = .returned v:=by
 obtain ⟨_,h,-⟩:=h;exact ⟨_,h⟩
def NewS.first {B sb tb:Nat} {w1:wD} {ρ:Nat->Rl} (hB:B<=W.heap.size) (N:W.heap.size<=w1.heap.size) (O:Ro (λ_=>.none) ρ W) (U:TapeAt ρ w1 tb s.tin s.tout) (X:Ext w1 w) (hs:sb=w1.heap.size) (V:w.heap.size=sb+1) (G:Blk w sb [.slice none 0 0,.slice none 0 0,.int .i64 0,.slice none 0 0,.pointer (some ⟨tb,0,none⟩)]):NewS B sb (CG vs s 0) w:=by
 have Y:Ro ρ (λb=>if b=sb then .store else if b<sb then ρ b else .none) w1:=λb G=>by
  simp only;rw [AB Ab,AQ Ab]
 have M:=(U.ro Y (gI _)).ext X;refine ⟨_,λ_=>0,λk h=>?_,AQ rfl,λb G=>?_,⟨_,_,_,tb,[],G,⟨⟨?_,λk h=>by cases h⟩,?_,λk h=>by cases h⟩,⟨?_,λk h=>by cases h⟩,?_,M⟩,λc xs Z=>?_⟩
 . rw [AB Ab,AQ Ab];exact O k Ab
 . rw [AB Ab,AB Ab]
 . exact Own.nil
 . exact Own.nil
 . exact Own.nil
 . rfl
 . simp [CG] at Z
def NewS.low {B sb:Nat} (h:NewS B sb st w) (O:n<=B):NewS n sb st w:=by
 obtain ⟨ρ,κ,M,N⟩:=h;exact ⟨ρ,κ,λk U=>M k Ab,N⟩
def dN (vs:List VD) (s:SV) (hf:FitsP vs s) (S:nP) (a ca ta oa:oA) (c cc tc oc:Nat) (w:wD) (N:VDs S w vs a) (hv:s.sits S w ca ta oa) :
 Calls prog 118 #[.slice a vs.length c,.agg (s.row ca cc ta tc oa oc).toArray] w (NewR vs s w):=by
 have X:=iK w;have hn:=hf.1.1;have ah:=hf.2.1;replace N:VDs (· < w.heap.size) w vs a:=N.lt2.wide λ_ h=>h.2
 have hv:=hv.ltA;have HF:=gp (λw1 h1 h2=>(aH vs Ab s (· < w.heap.size) a ca ta oa c cc tc oc w1 Ab h1 h2).mono (R':=λe w'=>e = .returned (.bool true)/\Ext w1 w') λe w' ⟨q,h1,h2,h3⟩=>⟨by rw [h1,h2.2 hf],h3⟩);have HT:=gp (λw1 h1 h2=>aO (λ_=>.none) s.tin s.tout hf.2.2.1 hf.2.2.2.1 ta oa tc oc w1 (F6 (S:=(· < w.heap.size)) h1) (F6 (S:=(· < w.heap.size)) h2));have Hf:=gp hf;clear hf;have Z:=hv.tin;have aa:=hv.tout;have G:=hv.cells;change Calls prog _ #[_,.agg #[.slice ca s.cells.length cc,.slice ta s.tin.length tc,.slice oa s.tout.length oc]] w _;refine Ad func118 ntmps118 rfl rfl (cS (eB [_,_,_] ?_));intro b1 w2 O x5 p6 z7;revert X N hv Z aa G;refine eE x5 ?_;intro X N hv Z aa G;refine kC (HF.out _ Af Af) ?_;rintro _ w9 ⟨⟨⟩,x8⟩;revert O X N Z aa G;refine eY x8 ?_;intro bq O X N Z aa G;refine kQ (HT.out _ Af Af) ?_;rintro _ av ⟨a9,ba,⟨⟩,aw,br,ax,ay⟩;revert O X N G;refine eY ay ?_;intro az O X N G;refine C1 Mv (C1 Px (C1 Px (C1 Pa (C1 Pa (cT (Aj (cS (C1 Mv (C1 V2 (cT (Lb (Ao (Ai ?_)))))))))))));have ai:=gp ax;have U:=iK av;refine eK ?_;refine C1 (xB [_,_,_,_,_]) (eB [_,_,_,_,_] ?_);intro ac a0 aj a1 a2 a3;revert O X N G U;refine eE a1 ?_;intro O X N G U;refine C1 Pa (cT (Aj (cS (C1 Mv (C1 Pz (C1 Mv (cT ?_)))))))
 have hN:NewS (b1+1) ac (CG vs s 0) a0:=NewS.first Ab az aw ai.out U a2 a3 aj;have a4:b1+1<=ac:=by omega
 clear U aj ai HF HT Z aa hv;refine As ?_;refine AG (ι:=Nat) (λj=>[(3,.pointer (some ⟨b1,0,none⟩)),(8,.pointer (some ⟨ac,0,none⟩)),(28,.slice a vs.length c),(29,.int .i64 vs.length),(30,.int .i64 j)])
  (λj w'=>j<=vs.length/\NewS (b1+1) ac (CG vs s j) w'/\Blk w' b1 [.slice ca s.cells.length cc,.slice ta s.tin.length tc,.slice oa s.tout.length oc]/\VDs (· < w.heap.size) w' vs a/\ICs (· < w.heap.size) w' s.cells ca/\Ext w w'/\b1+1<=w'.heap.size) (λj=>vs.length-j) 0 sB ⟨gC _,hN,O,N,G,X,Ab⟩ ?_
 clear hN O N G X;rintro j w3 ⟨hj,hN,O,N,G,X,hz⟩;by_cases ak:j<vs.length
 . obtain ⟨kb,ko,rfl,kS,hk⟩:=i9 N Ab;obtain ⟨db,bs,rfl,dS,hd⟩:=G.get (by intro e;rw [e] at ah;simp at ah;omega);have rx:=hk j _ (gm ak);obtain ⟨xa,xc,ry,Y⟩:=hd j _ (gm Ab);have bt:=Hf.out.each s.cells[j] (gA _);have g1:∀c∈(CG vs s j).base.cells,c<(CG vs s j).heap.length:=λc hc=>by simp only [CG,List.mem_range,ij] at hc ⊢;omega
   have g2:(CG vs s j).base.vars.length<=1000000:=by simp only [CG,ij];omega
   have g3:(CG vs s j).base.cells.length<=1000000:=by simp only [CG,List.length_range];omega
   have HA:=gp (W8 hN rfl g1 g2 g3 a4 hz vs[j] s.cells[j]);have ab:=U5 vs s j ak Ab;rw [ab] at HA;clear hk hd ab hN;generalize vs[j]=x at *;generalize s.cells[j]=xs at *;have HX:=gp (λw1 hB (h:Rows (· < w.heap.size) w1 (AX xs) xa)=>W9 xs Ab w3.heap.size (· < w.heap.size) xa xc w1 hB h);obtain ⟨xn,xk,xl⟩:=x;replace rx:Row w3 ⟨kb,ko+j*3,none⟩ [str xn,.int .u8 xk,.int .i64 xl]:=rx;unfold VD.val at HA;dsimp only at HA;have a5:=gp (λ(u:Value) (cb:Nat) (w1:wD) (X:Ext w3 w1) (a6:w3.heap.size<=cb) (hb:Blk w1 cb [u]) (hu:OwnI w1 w3.heap.size u xs) (b2:Nat) (h1:∀k,u.ownBlock=some k->k<b2) (h2:b2<=cb)=>HA.out u cb w1 X a6 hb hu (λe=>by have:=h1 _ e;omega));clear HA;have U:=iK w3;refine eK ?_;refine eA [_,_,_] ?_;intro bu bv a7 a8 bw bx;revert X N O G ry Y U;refine eE a8 ?_;intro X N O G ry Y U;refine C1 Pa (eS [_,_,_] a7 ?_);intro al am an bb;revert X N O G ry Y U;refine eF an ?_;intro X N O G ry Y U;refine cT (Aq (λwz=>Ext al wz) 12 (.pure 0 (.pure 1 (.pure 2 (.pure 3 (.pure 4 (.pure 5 (.pure 6 (.pure 7 (.pure 8 (.fork 9 (.pure 10 (.fork 11 .tail .none)) .none)))))))))) mixed AT (Ae (Aa (Aa (Ae (Aa Ag))))) ?_);intro ao ae _;have M:(λwz=>Ext al wz) ao:=ae;simp only at M;have ad:=am;have bc:=O;have ap:=ry;revert X N O G Y U;refine eY ae ?_;intro bd X N O G Y U;refine ⟨M,?_⟩;refine eT ?_;refine Tq rfl (xL [_,_,_] (λwz hz=>(iW ad hz))) (eT ?_);refine Tq rfl (Ap Ac rfl rfl rfl (λwz hz=>iT (iO ap hz) rfl)) (tC rfl rfl (HX.out _ Ab Af) ?_);rintro _ be ⟨bf,bg,⟨⟩,af,bh,aq⟩;revert M X N O G U;refine eY aq ?_;intro bi M X N O G U;refine ⟨M,?_⟩;refine Tq rfl (xB [_]) ?_
   refine AE rfl (G5 rfl rfl) rfl ?_ aFh AD;rintro _ bj ⟨bk,rfl,V⟩;have bl:=V.blk;have ar:=V.ext;have bm:=V.pos;have bn:=V.size;revert af M X N O G U;refine eE ar ?_;intro af M X N O G U;refine ⟨M,?_⟩;refine At rfl (cC rfl (a5.out _ _ _ Af Ab Af Af _ Af Ab) ?_);rintro _ bo ⟨⟨⟩,au,ag⟩;have bp:=ag.size;revert X N O G;refine eF ag ?_;intro X N O G;refine Ak (Ah (Ai (Al (C1 V7 (C1 Mv (Ak ?_))))));exact Aw (j+1) sB ⟨Ab,au,O,N,G,X,Ab⟩ Ab
 . obtain rfl:j=vs.length:=by omega
   refine kT ?_;exact ⟨_,rfl,hN.low Ab,Ab,X⟩
def Stp.sv (st:Stp):SV:=⟨(st.base.cells.take (st.base.cells.length-st.base.locals)).map st.items,st.tin,st.tout⟩
def F8 (l:List (List Int)) (j:Nat):List (List Int):=l.take j++gT (l.length-j) []
def Sj (l:List (List Int)) (j:Nat) (h:j<=l.length):(F8 l j).length=l.length:=by simp [F8];omega
def Sm (l:List (List Int)) (j:Nat) (h:j<l.length):(F8 l j).set j l[j]=F8 l (j+1):=by
 unfold F8;have G:(l.take j).length=j:=by simp;omega
 have M:(gT (l.length-j) ([]:List Int))=[]::gT (l.length-(j+1)) []:=by
  rw [show l.length-j=(l.length-(j+1))+1 by omega,List.replicate_succ]
 rw [List.set_append_right _ _ Ab,G,Nat.sub_self,M,List.set_cons_zero,gx h,gZ];rfl
def Sn (l:List (List Int)):F8 l l.length=l:=by simp [F8]
def ArrS.ics {C D g:Nat} {xs:List (List Int)} (h:ArrS EH C D w g xs) {S:nP} (M:S g) (N:∀b,C<=b->b<D->S b):ICs S w xs (some ⟨g,0,none⟩):=
 gt ⟨g,0,rfl,M,λi x O=>by
  obtain ⟨cs,U,a,c,rfl,V⟩:=h.row O;exact ⟨a,c,U,V.wide (λb G=>N b G.1 G.2)⟩⟩
section
variable {ρ:Nat->Rl} {κ:Nat->Nat} {K:List (Int×Int)} {m sb:Nat} {st:Stp} {w:wD}
def bF {tb:Nat} {ti to:List Int} (w:wD) (h:TapeAt ρ w tb ti to):Calls prog 163 #[.pointer (some ⟨tb,0,none⟩)] w (CloneS ti w):=
 (dI ρ tb ti to w h).mono λ_ _ ⟨a,c,h1,h2,h3,h4⟩=>⟨a,c,h1,h2.rowsI h3,h4⟩
def Zn {tb:Nat} {ti to:List Int} (w:wD) (h:TapeAt ρ w tb ti to):Calls prog 164 #[.pointer (some ⟨tb,0,none⟩)] w (CloneS to w):=
 (aN ρ tb ti to w h).mono λ_ _ ⟨a,c,h1,h2,h3,h4⟩=>⟨a,c,h1,h2.rowsI h3,h4⟩
def Stp.WF.items_le (G:st.WF K m) (c:Nat):(st.items c).length<=1000000:=by
 rcases gK c K.length with h|h
 . exact (G.cell c _ (gm h)).le
 . unfold js;rw [gY,gG (by rw [G.len];exact h)];exact gC _
def StoreAt.read (h:StoreAt ρ κ w sb st) (O:∀c∈st.base.cells,c<st.heap.length):∃M ca cc N tb,Blk w sb [M,.slice ca st.base.cells.length cc,.int .i64 st.base.locals,N,.pointer (some ⟨tb,0,none⟩)]/\TapeAt ρ w tb st.tin st.tout /\
 (st.base.cells≠[] -> ∃g,ca=some ⟨g,0,none⟩/\g<w.heap.size /\ ∀i c,st.base.cells[i]? = some c -> ∃a e,Row w ⟨g,0+i*1,none⟩ [.pointer (some ⟨κ c,0,none⟩)]/\Blk w (κ c) [.slice a (st.items c).length e]/\Rows (· < w.heap.size) w (AX (st.items c)) a):=by
 obtain ⟨h1,-,⟨M,bc,N,tb,cs,V,X,h4,h5,Y⟩,h7⟩:=h;rcases X.c.1.row with ⟨rfl,Z,-⟩|⟨g,cap,rfl,-,-,hr⟩
 . refine ⟨M,none,0,N,tb,by rw [Z];exact V,Y,λG=>absurd (List.length_eq_zero_iff.1 Z) G⟩
 . refine ⟨M,_,_,N,tb,V,Y,λG=>⟨g,rfl,(X.c.1.blk (k:=g) rfl).2,λi c hi=>?_⟩⟩;have hc:=O c (io hi);obtain ⟨-,v,k1,k2⟩:=h7 c (st.items c) (by unfold js;rw [gY,gm hc];rfl);obtain ⟨a,e,rfl⟩:=k2.1.shape;refine ⟨a,e,λj v U=>?_,k1,(k2.1.rowsI (S:=λ_=>True) (λ_ _=>trivial)).ltA⟩;cases j with
   | zero=>
    simp only [gX,gy] at U;subst U;have:=hr.at (i:=i) (v:=JP κ c) (by rw [gV,hi];rfl);rw [Nat.mul_one,show (⟨g,0+i,none⟩:Addr).add 0=⟨g,0+i,none⟩ by simp [iC]];simpa using this
   | succ j=>simp at U
def Zo (hw:st.WF K m) (hm:m<=1000000) (w:wD) (h:StoreAt ρ κ w sb st):Calls prog 122 #[.pointer (some ⟨sb,0,none⟩)] w (SvR st.sv w):=by
 have X:=iK w;have H:=gp h;have ag:∀c∈st.base.cells,c<st.heap.length:=λc hc=>hw.cells_lt AN hc
 have a9:st.base.cells.length<=1000000:=by have:=hw.base.len;have:=hw.vb _ (List.mem_cons_self ..);omega
 have ay:st.base.locals<=st.base.cells.length:=by have:=hw.base.len;have:=hw.base.loc;omega
 have ak:∀c,(st.items c).length<=1000000:=hw.items_le;obtain ⟨bv,ca,cc,cv,tb,hb,ht,hr⟩:=h.read ag;clear h;refine Ad func122 ntmps122 rfl rfl (cS (eA [_,_,_] ?_));intro b1 w2 O x6 p7 z8;revert X hb;refine eE x6 ?_;intro X hb;refine eK ?_;refine C1 (A0 Ac rfl rfl) (eK ?_);refine Aq (λwz=>Ext w2 wz) 11 (.pure 0 (.pure 1 (.pure 2 (.pure 3 (.pure 4 (.pure 5 (.pure 6 (.pure 7 (.pure 8 (.pure 9 (.pure 10 .tail))))))))))) mixed AT (Aa Ag) ?_;intro w9 al _;have ac:(λwz=>Ext w2 wz) w9:=al;simp only at ac;have V:=hb;revert O X;refine eY al ?_;intro ba O X;refine ⟨ac,?_⟩;refine Tq rfl Mv (Tq rfl Pn (Tq rfl Pg (Tq rfl Pf (Tq rfl (Db V) (Tq rfl Pz (Tq rfl Mv (Tq rfl Pn (Tq rfl Pg (Tq rfl Pf (Tq rfl (Db V) (At rfl (C1 (AK rfl rfl (gz _ Ab)) (C1 Pa (cT ?_))))))))))))));obtain ⟨M,hM⟩:∃M,M=st.base.cells.length-st.base.locals:=⟨_,rfl⟩;rw [show ((st.base.cells.length:Int)-(st.base.locals:Int))=(M:Int) by omega];obtain ⟨L,hL⟩:∃L,L=st.sv.cells:=⟨_,rfl⟩
 have ah:L.length=M:=by rw [hL,hM];simp [Stp.sv]
 clear hb ht hr;refine eK ?_;refine Ax (Dj (sh:=EH) (C:=w9.heap.size+1) (D:=w9.heap.size+1) (N:=M) (z:=[]) Ac Cs rfl rfl rfl rfl AT rfl rfl Ab (λ_ _=>⟨none,0,rfl,gq rfl⟩)) rfl ?_ aFh;rintro _ bb ⟨ab,rfl,ai,bc,bd,ar⟩;revert O X;refine eE ar ?_;intro O X;refine C1 Pa (cT (Aj (cS (C1 Mv (C1 Pz (C1 Mv (cT ?_)))))));have e0:gT M []=F8 L 0:=by simp [F8,ah]
 rw [e0] at ai;refine As ?_;refine AG (ι:=Nat) (λj=>[(0,.pointer (some ⟨sb,0,none⟩)),(2,.pointer (some ⟨b1,0,none⟩)),(4,.slice (some ⟨ab,0,none⟩) M M),(24,.int .i64 M),(25,.int .i64 j)])
  (λj w'=>j<=M/\ArrS EH (w9.heap.size+1) w'.heap.size w' ab (F8 L j)/\Blk w' b1 [.slice none 0 0,.slice none 0 0,.slice none 0 0]/\Ext w w'/\w9.heap.size+1<=w'.heap.size) (λj=>M-j) 0 sB ⟨gC _,ai.wide Ab,O,X,Ab⟩ ?_
 clear ai O X e0;rintro j w3 ⟨hj,U,O,X,hz⟩;obtain ⟨bv,ca,cc,cv,tb,hb,ht,hr⟩:=(H.out.ext X).read ag;by_cases az:j<M
 . obtain ⟨g,rfl,be,ad⟩:=hr (by intro e;rw [e] at hM;simp at hM;omega);obtain ⟨a,e,r1,r2,r3⟩:=ad j st.base.cells[j] (gm Ab);have am:L[j]=st.items st.base.cells[j]:=by simp [hL,Stp.sv]
   have Y:=Sm L j Ab;have bf:=Sj L j Ab;have HX:=gp (Hn (st.items st.base.cells[j]) (ak _) (· < w3.heap.size) a e);rw [am] at Y;clear ad hr am ag ak;generalize st.base.cells[j]=c at *;generalize st.items c=x at *;refine kQ (HX.out _ Af) ?_;rintro _ bg ⟨bh,bi,⟨⟩,bj,au⟩;revert U O X;refine eY au ?_;intro bk U O X;refine C1 Pi (A2 (FL (sh:=EH) (j:=j) (z:=x) (us:=[_]) Ac rfl rfl rfl rfl rfl rfl Af Ab Ab Ab ⟨_,_,rfl,Rows.wide Af (λb h=>by omega)⟩) (BA ?_));rintro _ a0 ⟨av,aj,bl⟩;have a1:=aj.size;clear U;revert O X;refine eF aj ?_;intro O X;clear ht hb r1 r2 r3 aj;refine Ak (Ah (Ai (Al (C1 V7 (C1 Mv (Ak ?_))))));exact Aw (j+1) sB ⟨Ab,by rw [<-Y];exact av.wide Ab,O,X,Ab⟩ Ab
 . obtain rfl:j=M:=by omega
   rw [<-ah,Sn] at U;clear hr;have HI:=gp (λw1 h=>bF (ρ:=ρ) (tb:=tb) (ti:=st.tin) (to:=st.tout) w1 h);have HO:=gp (λw1 h=>Zn (ρ:=ρ) (tb:=tb) (ti:=st.tin) (to:=st.tout) w1 h);refine eK ?_;refine Aq (λwz=>Ext w3 wz) 11 (.pure 0 (.pure 1 (.pure 2 (.pure 3 (.pure 4 (.pure 6 (.pure 7 (.pure 8 (.pure 9 (.fork 5 (.fork 10 .tail .none) .none)))))))))) mixed AT (Aa Ag) ?_;intro aw an _;have G:(λwz=>Ext w3 wz) aw:=an;simp only at G;have V:=hb;revert U O X ht;refine eY an ?_;intro bm U O X ht;refine ⟨G,?_⟩;refine eT ?_;refine tC rfl rfl (HI.out _ Af) ?_;rintro _ a2 ⟨ao,bn,⟨⟩,Z,ax⟩;revert G U O X ht;refine eY ax ?_;intro a3 G U O X ht;refine ⟨G,?_⟩;refine tC rfl rfl (HO.out _ Af) ?_;rintro _ a4 ⟨ae,a5,⟨⟩,aa,ap⟩;revert Z G U O X;refine eY ap ?_;intro a6 Z G U O X;refine ⟨G,?_⟩;refine At rfl (C1 (xB [_,_,_]) (eS [_,_,_] O ?_));intro a7 aq af a8;revert aa Z U X;refine eF af ?_;intro aa Z U X;clear hb ht af;refine kX aq ?_;exact ⟨some ⟨ab,0,none⟩,j,ao,_,ae,_,(by show _=Ending.returned (.agg #[.slice (some ⟨ab,0,none⟩) st.sv.cells.length j,.slice ao st.tin.length _,.slice ae st.tout.length _]);rw [<-hL,ah]),⟨by rw [<-hL];exact U.ics ⟨Ab,Ab⟩ (λb h1 h2=>⟨Ab,Ab⟩),Z.wide (λb h=>⟨Ab,Ab⟩),aa.wide (λb h=>⟨Ab,Ab⟩)⟩,X⟩
end
def QU {k:Int} {s:lB} {i:Nat} {v:List VD} (h:k≠54) (G:k≠55):CP k s i v=v:=by
 unfold CP;rw [AB (λe=>h e.1),AB (λe=>G e.1)]
def So (ps:List PD) (v:List VD):List Nd->Nat
 | []=>0
 | t::r=>t.flt ps v+So ps v r
def NN {ps:List PD} {v:List VD} {k:Int} {s:lB} (h:k≠54) (G:k≠55):∀(l:List Nd) (i:Nat),C7 ps v k s i l=So ps v l
 | [],_=>by rw [C7,So]
 | t::r,i=>by rw [C7,So,QU h G,NN h G r]
def NO {ps:List PD} {v:List VD} {k n:Int} {s:lB} {l:List Nd} (h:k≠54) (G:k≠55) (M:k≠50) (N:k≠51):(Nd.mk k n s l).flt ps v=N9 (CD ps v k s l.length)+So ps v l:=by
 rw [Nd.flt,AB Ab,NN h G]
def NZ {α:Type} (X:Except Int α):Prop:=X≠.error 0
def NZ.bind {α β:Type} {X:Except Int α} {K:α->Except Int β} (h:NZ X) (G:∀v,NZ (K v)):NZ (X.bind K):=by
 cases X with
 | error e=>exact λM=>h (by simpa [gL] using M)
 | ok v=>exact G v
def Xa (v:α):NZ (Except.ok v:Except Int α):=by unfold NZ;simp
def FR (r:Rn):NZ (Bn r):=by unfold NZ Bn;split<;>simp
def MC (f:Stp->Int×Stp) (r:Rn):NZ (C3 f r):=by
 unfold NZ C3;split
 . rename_i h;intro e;exact h (by simpa using e)
 . simp
def MD (t:Nd) (r:Rn):NZ (B4 t r):=by
 unfold NZ B4;split
 . rename_i h;intro e;exact h (by simpa using e)
 . simp
def ME (t:Nd) (r:Rn):NZ (BZ t r):=(FR r).bind λr=>(MD t r).bind λ_=>Xa _
def Kh (t:Nd) (b:Bool) (r:Rn):NZ (BH t b r):=(ME t r).bind λp=>by unfold NZ;split<;>simp
def Xb {f:Nd->Rn->Except Int Rn} (h:∀t r,NZ (f t r)):∀(l:List Nd) (r:Rn),NZ (Gf f l r)
 | [],r=>Xa r
 | t::l,r=>(h t r).bind λr=>Xb h l r
def QV {f:Bool->Nd->Rn->Except Int Rn} (h:∀b t r,NZ (f b t r)) (b:Bool) (t:Nd) (r:Rn):NZ (AW f b t r):=Xb (λt r=>h b t r) _ r
def Ty {h G:Rn->Except Int Rn} {x y:Nd} (M:∀r,NZ (h r)) (N:∀r,NZ (G r)):∀(m:Nat) (r:Rn),NZ (Cw h G x y m r)
 | 0,r=>by unfold NZ Cw;simp
 | m+1,r=>by
  unfold Cw;refine (M r).bind λr=>(ME x r).bind λp=>?_
  split
  . exact Xa _
  . exact (N _).bind λr=>(Kh y false r).bind λr=>Ty M N m r
def Tz (ps:List PD):∀(d:Nat) (b:Bool) (t:Nd) (r:Rn),NZ (AI ps d b t r)
 | 0,b,t,r=>by unfold NZ AI;simp
 | d+1,b,.mk k n s l,r=>by
  have h:=QV (Tz ps d);unfold AI;simp only;split
  . exact (ME _ r).bind λp=>(h b _ _).bind λr=>Kh _ _ r
  split
  . exact (Kh _ _ r).bind λr=>Ty (h b _) (h b _) d r
  split
  . exact (FR r).bind λr=>(MD _ r).bind λv=>(MC _ r).bind λr=>(h b _ r).bind λr=>(FR r).bind λr=>(MD _ r).bind λv=>MC _ r
  split
  . exact (FR r).bind λr=>(MC _ r).bind λr=>(h b _ r).bind λr=>(FR r).bind λr=>MC _ r
  split
  . exact (FR r).bind λr=>(MC _ r).bind λr=>(h _ _ r).bind λr=>(FR r).bind λr=>MC _ r
  . exact (FR r).bind λr=>MC _ r
def GW (ps:List PD) (b:Bool) (t:Nd) (r:Rn):∃d,AW (AI ps d) b t r≠.error (-1):=
 KX (F:=λd=>AI ps d) (λd G b t h=>Kf ps b t h) (λd b t=>Hs ps d b t) r.rem b t (λx _ r M=>Sa ps r.rem b x r (gI _)) r (gI _)
def Lh {ps:List PD}:∀ {l:List Nd},(∀t∈l,bA ps t)->WW ps l
 | [],_=>trivial
 | t::r,h=>⟨h t AN,Lh λx G=>h x (by simp [G])⟩
def JK {ps:List PD} {v:List VD}:∀ {l:List Nd},So ps v l=0 -> ∀t∈l,t.flt ps v=0
 | [],_,_,h=>by simp at h
 | x::r,G,t,h=>by
  simp only [So,Nat.add_eq_zero_iff] at G;rcases ik.1 h with rfl|h
  . exact G.1
  . exact JK G.2 t h
def Xc (ps:List PD) (N:Nat):∀t:Nd,t.size<N->t.isExpr=true->bA ps t:=by
 induction N with
 | zero=>intro t h;omega
 | succ N M=>
  rintro ⟨k,n,s,l⟩ O h;have U:=Ic h;simp only [Nd.kind] at U;simp only [iX] at O;exact ⟨λe=>by omega,Lh λx G=>M x (by have:=Cx G;omega) ((JY h).2.1 x G)⟩
def Ef (ps:List PD) {t:Nd} (h:t.isExpr=true):bA ps t:=Xc ps (t.size+1) t Ab h
def Xd {e:Int} (h:N9 e=0):e=0:=by unfold N9 at h;split at h<;>first|assumption|cases h
def Zp (ps:List PD) (N:Nat):∀(t:Nd) (v:List VD),t.size<N->(t.isStmt=true\/t.isBlock=true)->t.flt ps v=0->bA ps t:=by
 induction N with
 | zero=>intro t v h;omega
 | succ N X=>
  intro t v Y h M;rcases h with h|h
  . cases Ce h with
    | upd V G U=>
     exact ⟨λe=>by omega,Ef ps (Bd G),Ef ps U,trivial⟩
    | swap G U=>exact ⟨λe=>by omega,Ef ps (Bd G),Ef ps (Bd U),trivial⟩
    | stack V Z G=>exact ⟨λe=>by omega,Ef ps (Bd G),trivial⟩
    | tape V G=>exact ⟨λe=>by omega,Ef ps (Bd G),trivial⟩
    | call V Z hl hv=>
     rename_i k s l;refine ⟨λ_=>?_,Lh λx G=>Ef ps (GA (List.all_eq_true.1 hv x G))⟩;rw [Nd.flt,AQ V,Nat.add_eq_zero_iff] at M;have O:=Xd M.1;unfold CD SU at O;rw [AB Ab,AB Ab,AB Ab,AB Ab,AQ V] at O;cases hp:CA ps s with
     | some i=>rfl
     | none=>rw [hp] at O;simp at O
    | branch V G U hz hu=>
     rename_i k x y z u;rw [NO Ab Ab Ab Ab] at M;simp only [iX,AU] at Y;have O:=(Nat.add_eq_zero_iff.1 M).2;exact ⟨λe=>by omega,Ef ps G,X y v Ab (gt U) (JK O y AN),X z v Ab (gt hz) (JK O z AN),Ef ps hu,trivial⟩
    | local_ Z G U hz=>
     rename_i s x y z;rw [Nd.flt,AB Ab] at M;simp only [iX,AU] at Y;simp only [C7,Nat.add_eq_zero_iff] at M;exact ⟨λe=>by omega,Ef ps G,X y _ Ab (gt U) M.2.2.1,Ef ps hz,trivial⟩
    | lstack Z G=>
     rename_i s x;rw [Nd.flt,AB Ab] at M;simp only [iX,AU] at Y;simp only [C7,Nat.add_eq_zero_iff] at M;exact ⟨λe=>by omega,X x _ Ab (gt G) M.2.1,trivial⟩
  . obtain ⟨k,n,s,l⟩:=t;obtain ⟨e,hr⟩:=DT h;simp only [Nd.kids] at hr;obtain ⟨rfl,-⟩:=Nd.mk.inj e;rw [NO Ab Ab Ab Ab] at M;have O:=(Nat.add_eq_zero_iff.1 M).2;simp only [iX] at Y;exact ⟨λe=>by omega,Lh λx G=>X x v (by have:=Cx G;omega) (gq (rowStmt_iff.1 hr x G)) (JK O x G)⟩
def MF {ps:List PD}:∀ {l:List PD} {i:Nat},DI ps i l=0 -> ∀p∈l,p.body.flt ps p.params=0
 | [],_,_,_,h=>by simp at h
 | x::r,i,G,p,h=>by
  simp only [DI,Nat.add_eq_zero_iff] at G;rcases ik.1 h with rfl|h
  . exact G.1.2
  . exact MF G.2 p h
def NP {ps:List PD} {t:Nd} {v:List VD} (h:t.wf) (G:EZ t=true) (M:t.flt ps v=0):StOk ps t:=by
 obtain ⟨N,O,U⟩:=body_iff.1 G;exact ⟨h,Ab,Zp ps (t.size+1) t v Ab (gt N) M⟩
def U6 (h:g.wf) (G:g.ok=true) (M:g.flt=0):StOk g.procs g.main:=by
 unfold PG.flt at M;exact NP h.main (EQ G).2.2.2.2 (Nat.add_eq_zero_iff.1 M).2
def Xe (h:g.wf) (G:g.ok=true) (N:g.flt=0):ProcsOk g:=by
 unfold PG.flt at N;have U:=(Nat.add_eq_zero_iff.1 (Nat.add_eq_zero_iff.1 N).1).2;obtain ⟨-,X,-,V,-⟩:=EQ G;refine ⟨Ab,λp M=>?_⟩;obtain ⟨-,Y,-,O⟩:=Ev (V p M);exact ⟨(body_iff.1 O).1,NP (h.procs p M).body O (MF U p M),Ab⟩
def TA (h:FitsP vs s):(CG vs s vs.length).WF (vs.map λv=>(v.kind,v.len)) 1000:=by
 obtain ⟨⟨h1,X⟩,Y,h4,h5,Z⟩:=h;have e1:s.cells.take vs.length=s.cells:=List.take_of_length_le Ab;have e2:vs.take vs.length=vs:=gF;unfold CG;rw [e1,e2];have hb:FrmWF (vs.map λv=>(v.kind,v.len)) ⟨vs,it vs.length,0⟩:=⟨AN,gC _,λi v c G U=>by
  have V:=(List.getElem?_eq_some_iff.1 G).1;rw [List.getElem?_range (by simpa using V)] at U;obtain rfl:=gB U;simp [G]⟩
 refine ⟨by simp [Y],hb,λf N=>by simp at N,λc x M=>?_,gC _,λf N=>?_⟩
 . rw [gV] at M;cases G:vs[c]? with
   | none=>rw [G] at M;cases M
   | some v=>
    rw [G] at M;obtain rfl:=gB M;have V:=(List.getElem?_eq_some_iff.1 G).1;have O:=Z c v _ G (gm (show c<s.cells.length by omega));have h8:=X v (io G);have h9:(js ⟨s.cells,⟨vs,it vs.length,0⟩,[],s.tin,s.tout⟩ c)=s.cells[c]:=by
     unfold js;simp [gY,gm (show c<s.cells.length by omega)]
    rw [h9];unfold MV CT at O;unfold IR at h8;unfold cellOk;simp only;split at O
    . omega
    . split at O<;>omega
 . simp only [ia] at N;rw [N];simp only;omega
def I2 (s:SV) (f:Nat):Except Int Rn->ResV
 | .error e=>⟨s,0,e⟩
 | .ok r=>⟨r.st.sv,(f:Int)-r.rem,0⟩
def QX {tab:Tab} {sz:Nat} {fn:Func} {G b s:Nat} {X:Sk} {vs:lV} {U:Value} (h:fn.results = #[.tmp s,.cell m G]) (T:TabOk P tab) (Y:Az tab G=some (X,sz)) (Z:X.agg=true)
 (hv:look l m=some (.pointer (some ⟨b,0,none⟩))) (h1:look l s=some U) (hb:Blk w b vs) (hl:vs.length=sz) (hR:R (.returned (.tuple #[U,.agg vs.toArray])) w):QW n (bodyPost P fn R) .ret l w:=by
 unfold QW;intro a V;refine ⟨V.defers,.tuple #[U,.agg vs.toArray],?_,hR⟩;have e:(loadVar G ⟨b,0,none⟩).run P w = .ok (.agg vs.toArray) w:=by
  simp only [gE,gP,gw,loadVar,Co (T _ _ _ Y),Z,if_true,B3 (T _ _ _ Y)];rw [<-hl,Cr hb.row]
 have M:=V.has m _ hv;have N:=V.has s _ h1;simp only [Array.getD_eq_getD_getElem?] at M N;simp [results,h,M,N,e,asAddr]
section
variable {c:RC} {P P':nP} {w w':wD} {r:Rn} {T:nP}
def Xf (hc:c.fuel<=10000) (hg:ProcsOk c.g) (G:StOk c.g.procs c.g.main) (M:c.g.main.isBlock=true) (d:Nat) (b:Bool) (U:AW (AI c.g.procs d) b c.g.main r≠.error (-1)) (N V b7 vc pc X:Nat) (va pa O:oA) (w:wD) (h:Run c P w r)
 (ab:Blk w N [.pointer (some ⟨c.rb,0,none⟩)]) (Y:Blk w V (c.g.cells va vc pa pc O X)) (h7:Blk w b7 [.bool b]) (hm:c.g.main.sits P w O) :
 Calls prog 120 #[.pointer (some ⟨N,0,none⟩),.pointer (some ⟨V,0,none⟩),.pointer (some ⟨b7,0,none⟩)] w (Dx c P (AW (AI c.g.procs d) b c.g.main r) w):=by
 have HB:=gp (W4 hc hg d P b c.g.main r O X w M G U hm h);generalize AW (AI c.g.procs d) b c.g.main r=Z at *;unfold Dx at HB;clear h hm G M;have F:=iP (λk=> ¬P k) w;unfold PG.cells at Y;generalize c.g.main=t at *;obtain ⟨k,n,s,l⟩:=t;replace Y:Blk w V [.slice va c.g.vars.length vc,.slice pa c.g.procs.length pc,.int .u8 k,.int .i64 n,str s,.slice O l.length X]:=Y;refine Ad func120 ntmps120 rfl rfl ?_
 focus
  refine eK ?_;refine A4 (AL AT rfl (HB.out) (λ_ _ h=>h.ret)) rfl ?_ ?_;rotate_left;intro c7 w8 q9
  rotate_right 1
  rintro _ ac ⟨ad,⟨⟩,rfl,ae,aa⟩;have F:=iU F aa (λk hk=>gq hk);refine Ak (Bi rfl ?_);rotate_left;refine AF ?_;rotate_left
 . exact gq ⟨_,rfl,rfl,Af,F⟩
 . exact gt ⟨_,rfl,Af⟩
end
def ArrS.blkI {C D g:Nat} (h:ArrS CY C D w g xs):Blk w g (AX xs):=by
 obtain ⟨G,M,N,O⟩:=h.ex;have e:G=xs.map λx=>[.int .i64 x]:=by
  refine List.ext_getElem (by simp [N]) λi U V=>?_
  rw [List.getElem_map];exact O i xs[i] G[i] (gm Ab) (gm U)
 have X:G.flatten=AX xs:=by
  rw [e];clear h M N O e
  induction xs with
  | nil=>rfl
  | cons x r Y=>simp only [im,List.flatten_cons,Y];rfl
 rw [<-X];exact M
section
variable {c:RC} {P P':nP} {w w':wD} {r:Rn} {T:nP}
def Zq (M:c.fuel<=10000) (w:wD) (h:Run c P w r):Calls prog 122 #[.pointer (some ⟨c.sb,0,none⟩)] w (SvR r.st.sv w):=by
 obtain ⟨ρ,κ,h⟩:=h;obtain ⟨K,G⟩:=h.wf;exact Zo G Ab w h.st
def Run.small (O:c.fuel<=10000) (h:Run c P w r):r.st.sv.small:=by
 obtain ⟨ρ,κ,h⟩:=h;obtain ⟨K,G⟩:=h.wf;obtain ⟨U,V,X,tb,cs,-,-,-,-,M⟩:=h.st.frs;have Y:=M.li;have Z:=M.lo;have h3:=G.base.len;have h4:=G.vb _ (List.mem_cons_self ..);refine ⟨by simp only [Stp.sv,List.length_map,ij];omega,λxs N=>?_,by simp only [Stp.sv];omega,by simp only [Stp.sv];omega⟩;simp only [Stp.sv,List.mem_map] at N;obtain ⟨x,-,rfl⟩:=N;exact G.items_le x
def Zr {B sb ec vc pc mc f:Nat} {va Y ma:oA} {S:nP} {K:List (Int×Int)} {N w:wD} (hN:NewS B sb st N) (X:Ext N w) (hB:B<=N.heap.size) (ad:N.heap.size<=n) (ae:N.heap.size<=m) (Z:n≠m)
 (aa:st.WF K 1000) (V:Blk w n [.slice va g.vars.length vc,.slice Y g.procs.length pc,.int .u8 g.main.kind,.int .i64 g.main.num,str g.main.name,.slice ma g.main.kids.length mc,.pointer (some ⟨sb,0,none⟩),.int .i64 0,.int .i64 f,.slice (some ⟨m,0,none⟩) g.procs.length ec]) {es:List Int} (ab:es.length=g.procs.length) (he:Blk w m (AX es)) (hp:PDs S w g.procs Y) (hS:∀k,S k->P k) (hP:∀k,P k->k<w.heap.size/\(k<B\/(N.heap.size<=k/\k≠n/\k≠m))) :
 Run ⟨n,sb,m,ec,g,va,vc,Y,pc,ma,mc,f,S⟩ P w ⟨st,f⟩:=by
 obtain ⟨ρ,κ,h0,hs⟩:=hN;have hr:Ro ρ (λb=>if b=n then .other 0 else if b=m then .other 1 else ρ b) N:=λb V=>by
  simp only;rw [AB Ab,AB Ab]
 have af:=V.lt;have ac:=he.lt;have O:=hs.fresh;refine ⟨_,κ,AQ rfl,?_,gI _,?_,⟨es,ab,he⟩,hs.move (Fr.none X) (λ_ h=>h.elim) hr (λb V=>?_),⟨K,aa.mono Ab⟩,hp,hS,λk hk=>⟨λh=>?_,(hP k hk).1⟩⟩
 . show (if m=n then Rl.other 0 else if m=m then Rl.other 1 else ρ m)=Rl.other 1;rw [AB (λe=>Z e.symm),AQ rfl]
 . simp only [Int.sub_self];exact V
 . rw [AB Ab,AB Ab];exact O b Ab
 . obtain ⟨-,U⟩:=hP k hk;have e1:ρ k = .none:=by
    rcases U with U|U
    . exact h0 k U
    . exact O k U.1
   have e2:(if k=n then Rl.other 0 else if k=m then Rl.other 1 else ρ k) = .none:=by
    rw [AB Ab,AB Ab,e1]
   rw [e2] at h;rcases h with h|h|h
   . exact h
   . cases h
   . cases h
end
def BeginR (res:ResV) (w:wD):Ending->wD->Prop:=λe w'=> ∃v a c ta tc oa oc,e = .returned (.tuple #[v,.agg (res.row a c ta tc oa oc).toArray])/\res.st.sits (λb=>w.heap.size<=b/\b<w'.heap.size) w' a ta oa/\res.st.small/\Ext w w'
def BeginR.ret {G:ResV} {w':wD} (h:BeginR G w e w'):∃v,e = .returned v:=by
 obtain ⟨_,_,_,_,_,_,_,h,-⟩:=h;exact ⟨_,h⟩
def Zs (g:PG) (av:g.wf) (ah:g.ok=true) (h0:g.flt=0) (s:SV) (hf:FitsP g.vars s) (f:Nat) (a6:f<=10000) (ac:Bool) (d:Nat) (bz:AW (AI g.procs d) ac g.main ⟨CG g.vars s g.vars.length,f⟩≠.error (-1))
 (S:nP) (va:oA) (vc:Nat) (pa:oA) (pc:Nat) (ma:oA) (mc:Nat) (ca ta oa:oA) (cc tc oc:Nat) (w:wD) (Y:g.sits S w va pa ma) (U:PDsC S w g.procs pa) (b0:g.vars.length<=vc) (hv:s.sits S w ca ta oa) :
 Calls prog 86 #[.agg (g.cells va vc pa pc ma mc).toArray,.agg (s.row ca cc ta tc oa oc).toArray,.int .i64 f,.bool ac] w (BeginR (I2 s f (AW (AI g.procs d) ac g.main ⟨CG g.vars s g.vars.length,f⟩)) w):=by
 have X:=iK w;have Y:=Y.ltA;have U:=U.ltA;have hv:=hv.ltA;have aw:=hf.small;have HV:=gp (FP av ah);have HC:=gp (λw1 h1 h2=>Jw g av ah (· < w.heap.size) va vc pa pc ma mc w1 h1 h2 b0);rw [h0] at HC;have HN:=gp (λw1 (h1:g.sits (· < w.heap.size) w1 va pa ma) h2=>dN g.vars s hf (· < w.heap.size) va ca ta oa vc cc tc oc w1 h1.vars h2);have HK:=gp (λw1 h=>J6 s (· < w.heap.size) ca ta oa cc tc oc w1 aw.few aw.each aw.tin aw.tout h);have b2:=gp (Xe av ah h0);have b3:=gp (U6 av ah h0);have b4:=gp (Qf ah);have HW:=gp (TA hf);have b5:=QV (Tz g.procs d) ac g.main ⟨CG g.vars s g.vars.length,f⟩;have em:=(EQ ah).2.1;clear hf av ah h0;refine Ad func86 ntmps86 rfl rfl (cS (eB [_,_,_,_,_,_] ?_));intro b1 w2 h4 x5 p6 z7;revert X Y U hv;refine eE x5 ?_;intro X Y U hv;refine eB [_,_,_] ?_;intro b8 w9 G b6 en eo;revert h4 X Y U hv;refine eE b6 ?_;intro h4 X Y U hv;refine eB [_] ?_;intro ax ep M b7 eq er;revert G h4 X Y U hv;refine eE b7 ?_;intro G h4 X Y U hv;refine C1 Pa (eA [_,_,_,_,_] ?_);intro bb et O b9 eu ew;revert M G h4 X Y U hv;refine eE b9 ?_;intro M G h4 X Y U hv;refine kC (HV.out _ _ _ _ _ _ _ _ Af) ?_;rintro _ ex ⟨⟨⟩,cb⟩;revert O M G h4 X Y U hv;refine eY cb ?_;intro ey O M G h4 X Y U hv;refine kQ (HC.out _ Af Af) ?_;rintro _ a7 ⟨ez,e0,⟨⟩,cd⟩;revert O M G h4 X Y U hv;refine eY cd ?_;intro e1 O M G h4 X Y U hv;refine kQ (HN.out _ Af Af) ?_;rintro _ ai ⟨ae,⟨⟩,bc,e2,ce⟩;revert O M G h4 X Y U hv;refine eY ce ?_;intro e3 O M G h4 X Y U hv;refine C1 Mv (C1 Px (C1 Px (C1 Pa (C1 Pa (cT (Aj (cS (C1 Mv (C1 V2 (cT (Lb (Ao (Ai ?_)))))))))))))
 have cf:=gp bc;have Xn:=iK ai;clear bc HV HC HN;refine FM (ι:=Nat×Nat×Nat) (λx=>[(4,.pointer (some ⟨b1,0,none⟩)),(5,.pointer (some ⟨b8,0,none⟩)),(7,.pointer (some ⟨ax,0,none⟩)),(8,.slice none 0 0),(9,.pointer (some ⟨bb,0,none⟩)),(10,.pointer (some ⟨ae,0,none⟩)),(12,.pointer (some ⟨x.2.2,0,none⟩))])
  (λx w'=>Blk w' x.1 [.slice va g.vars.length vc,.slice pa g.procs.length pc,.int .u8 g.main.kind,.int .i64 g.main.num,str g.main.name,.slice ma g.main.kids.length mc,.pointer (some ⟨ae,0,none⟩),.int .i64 0,.int .i64 f,.slice (some ⟨x.2.1,0,none⟩) g.procs.length g.procs.length] /\
   Blk w' x.2.1 (AX (gT g.procs.length 0))/\Blk w' x.2.2 [.pointer (some ⟨x.1,0,none⟩)]/\ai.heap.size<=x.1/\ai.heap.size<=x.2.1/\ai.heap.size<=x.2.2/\x.1≠x.2.1/\x.2.2≠x.1/\x.2.2≠x.2.1/\Blk w' b1 (g.cells va vc pa pc ma mc)/\Blk w' b8 [.slice ca s.cells.length cc,.slice ta s.tin.length tc,.slice oa s.tout.length oc]/\Blk w' ax [.bool ac]/\Blk w' bb [.slice none 0 0,.slice none 0 0,.slice none 0 0,.int .i64 0,.int .i64 0]/\g.sits (· < w.heap.size) w' va pa ma/\s.sits (· < w.heap.size) w' ca ta oa/\Ext ai w'/\Ext w w') ?_ ?_
 . focus
    refine Aq (λwz=>Ext ai wz) 10 (.pure 0 (.pure 1 (.pure 2 (.pure 3 (.pure 4 (.pure 5 (.fork 6 (.pure 7 (.fork 8 (.fork 9 .tail .none) (.fork 9 (.fork 8 .tail .none) .none))) (.fork 9 (.fork 6 (.pure 7 (.fork 8 .tail .none)) .none) .none)))))))) mixed AT (Aa Ag) ?_;intro cg bd _;have V:(λwz=>Ext ai wz) cg:=bd;simp only at V;have a8:=O;have a9:=M;have ba:=G;have a0:=h4;have be:=Y;have ch:=U;have bf:=hv;revert O M G h4 X Y U hv Xn;refine eY bd ?_;intro e4 O M G h4 X Y U hv Xn;refine ⟨V,?_⟩;refine Tq rfl (xL [_,_,_,_,_,_] (λwz hz=>(iW a0 hz))) (eT ?_);refine AE rfl (Dj (sh:=CY) (C:=0) (D:=0) (N:=g.procs.length) (z:=0) Ac Cs rfl rfl rfl rfl AT rfl rfl Ab (λ_ _=>rfl)) rfl ?_ aFh ?kra5;rintro _ cv ⟨e5,rfl,ad,e6,e7,bg⟩;revert V O M G h4 X Y U hv Xn;refine eY bg ?_;intro cw V O M G h4 X Y U hv Xn;refine ⟨V,?_⟩;refine Tq rfl (xB [_,_,_,_,_,_,_,_,_,_]) (AE rfl (G5 rfl rfl) rfl ?_ aFh ?kra13);rintro _ cx ⟨cy,rfl,aj⟩;have ak:=aj.blk;have bh:=aj.ext;have cz:=aj.pos;have c0:=aj.size;revert ad V O M G h4 X Y U hv Xn;refine eE bh ?_;intro ad V O M G h4 X Y U hv Xn;refine ⟨V,?_⟩;refine AE rfl (Bb Cs rfl) rfl ?_ aFh AD;rintro _ c1 ⟨c2,rfl,al⟩;have a1:=al.blk;dsimp only at a1;have bi:=al.ext;have c3:=al.pos;have c4:=al.size;revert ak ad V O M G h4 X Y U hv Xn;refine eE bi ?_;intro ak ad V O M G h4 X Y U hv Xn;refine ⟨V,?_⟩;refine At rfl (eS [_] a1 ?_);intro c5 c6 bj c7;revert ak ad O M G h4 X Y U hv Xn;refine eF bj ?_;intro ak ad O M G h4 X Y U hv Xn;refine Ak ?_;rotate_left;refine AE rfl (Bb Cs rfl) rfl ?_ aFh AD;rintro _ c8 ⟨c9,rfl,am⟩;have an:=am.blk;dsimp only at an;have bk:=am.ext;have da:=am.pos;have db:=am.size;revert ad V O M G h4 X Y U hv Xn;refine eE bk ?_;intro ad V O M G h4 X Y U hv Xn;refine ⟨V,?_⟩;refine AE rfl (G5 rfl rfl) rfl ?_ aFh AD;rintro _ dc ⟨dd,rfl,ao⟩;have a2:=ao.blk;have bl:=ao.ext;have de:=ao.pos;have df:=ao.size;revert an ad V O M G h4 X Y U hv Xn;refine eE bl ?_;intro an ad V O M G h4 X Y U hv Xn
    refine ⟨V,?_⟩;refine At rfl (eS [_] an ?_);intro dg dh bm di;revert a2 ad O M G h4 X Y U hv Xn;refine eF bm ?_;intro a2 ad O M G h4 X Y U hv Xn;refine Ak ?_;rotate_left;refine AE rfl (Bb Cs rfl) rfl ?_ aFh AD;rintro _ dk ⟨dl,rfl,ap⟩;have af:=ap.blk;dsimp only at af;have bn:=ap.ext;have dm:=ap.pos;have dn:=ap.size;revert V O M G h4 X Y U hv Xn;refine eE bn ?_;intro V O M G h4 X Y U hv Xn;refine ⟨V,?_⟩;refine AE rfl (Dj (sh:=CY) (C:=0) (D:=0) (N:=g.procs.length) (z:=0) Ac Cs rfl rfl rfl rfl AT rfl rfl Ab (λ_ _=>rfl)) rfl ?_ aFh AD;rintro _ dp ⟨dq,rfl,aq,dr,ds,bo⟩;revert af V O M G h4 X Y U hv Xn;refine eY bo ?_;intro dt af V O M G h4 X Y U hv Xn;refine ⟨V,?_⟩;refine Tq rfl (xB [_,_,_,_,_,_,_,_,_,_]) (AE rfl (G5 rfl rfl) rfl ?_ aFh AD);rintro _ du ⟨dv,rfl,ar⟩;have a3:=ar.blk;have bp:=ar.ext;have dw:=ar.pos;have dx:=ar.size;revert aq af V O M G h4 X Y U hv Xn;refine eE bp ?_;intro aq af V O M G h4 X Y U hv Xn;refine ⟨V,?_⟩;refine At rfl (eS [_] af ?_);intro dy dz bq d0;revert a3 aq O M G h4 X Y U hv Xn;refine eF bq ?_;intro a3 aq O M G h4 X Y U hv Xn;refine Ak ?_;rotate_left
   all_goals exact BS (_,_,_) sC ⟨Af,ArrS.blkI Af,Af,by (try simp only);omega,by (try simp only);omega,by (try simp only);omega,by (try simp only);omega,by (try simp only);omega,by (try simp only);omega,Af,Af,Af,Af,Af,Af,Xn,X⟩
 . clear h4 G M O Y hv U X Xn;rintro ⟨rb,eb,au⟩ w3 ⟨ay,az,aa,o1,o2,o3,o4,o5,o6,h4,G,M,O,Y,hv,Xn,X⟩;simp only at ay az aa o1 o2 o3 o4 o5 o6;have e8:=Xn.size;have d1:=aa.lt;have hR:Run ⟨rb,ae,eb,g.procs.length,g,va,vc,pa,pc,ma,mc,f,(· < w.heap.size)⟩ (λk=>k<a7.heap.size\/k=au) w3 ⟨CG g.vars s g.vars.length,f⟩:=
    Zr cf.out Xn Ab o1 o2 o4 HW.out ay (es:=gT g.procs.length 0) AN az Y.procs (λk hk=>gq Ab) (λk hk=>by rcases hk with hk|hk<;>omega)
   have HA:Hid (∀jb w4,Ext w3 w4->w3.heap.size<=jb->jb<w4.heap.size->Blk w4 jb [.slice none 0 0,.bool false]->Calls prog 119 #[.pointer (some ⟨jb,0,none⟩),.func (.func 120) #[] #[.pointer (some ⟨au,0,none⟩),.pointer (some ⟨b1,0,none⟩),.pointer (some ⟨ax,0,none⟩)]] w4 (bE ⟨rb,ae,eb,g.procs.length,g,va,vc,pa,pc,ma,mc,f,(· < w.heap.size)⟩ (B9 (λk=>k<a7.heap.size\/k=au) w3 w4) (AW (AI g.procs d) ac g.main ⟨CG g.vars s g.vars.length,f⟩) w4)):=gp λjb w4 X4 j1 j2 hj=>
    U4 (ca:=[.pointer (some ⟨au,0,none⟩),.pointer (some ⟨b1,0,none⟩),.pointer (some ⟨ax,0,none⟩)]) AT b5 w4 (λk hk=>by have:=X4.size;rcases hk with (hk|hk)|hk<;>omega) (λk hk=>gq (gq (by have e:k<w.heap.size:=hk;omega))) (gt ⟨j1,j2⟩) hj (λw5 X5=>
     Xf (c:=⟨rb,ae,eb,g.procs.length,g,va,vc,pa,pc,ma,mc,f,(· < w.heap.size)⟩) a6 b2.out b3.out b4.out d ac bz au b1 ax vc pc mc va pa ma w5 ((hR.more X4).more X5) ((aa.ext X4).ext X5) ((h4.ext X4).ext X5) ((M.ext X4).ext X5) (Nd.sits.wide ((Y.main.ext X4).ext X5) (λb hb=>gq (gq (gq (by have e:b<w.heap.size:=hb;omega))))))
   unfold bE at HA;generalize AW (AI g.procs d) ac g.main ⟨CG g.vars s g.vars.length,f⟩=Z at *;have X3:=iK w3;clear Xn hR;refine cS (eA [_,_] ?_);intro e9 ci cj ck fa fb;revert ay az aa h4 G M O Y hv X X3;refine eE ck ?_;intro ay az aa h4 G M O Y hv X X3;refine C1 (BW rfl) (Ax (AR AT rfl (HA.out _ _ X3 Ab Ab Af) (λ_ _ ⟨_,h⟩=>⟨_,h.1⟩)) rfl ?_ aFh);rintro _ a4 ⟨d2,⟨⟩,br,ab⟩;have d3:=ab.size;clear cj ay az;have aa:=iN aa ab (λh=>h (gq (gt rfl)));have h4:=iN h4 ab (λh=>h (gq (gq Ab)));have G:=iN G ab (λh=>h (gq (gq Ab)));have M:=iN M ab (λh=>h (gq (gq Ab)));have O:=iN O ab (λh=>h (gq (gq Ab)));have Y:=PG.sits.fr Y ab (λb hb h=>h (gq (gq (by have e:b<w.heap.size:=hb;omega))));have hv:=SV.sits.fr hv ab (λb hb h=>h (gq (gq (by have e:b<w.heap.size:=hb;omega))));have X:=Ext.fr X ab (λk hk=>by (rcases gK k w.heap.size with h|h;exact absurd (gq (gq Ab)) hk;exact h));refine C1 Pa (cT (Aj ?_));rcases br with ⟨bs,r,hZ,hR⟩|⟨bs,hZ⟩
   . subst bs;have cl:=hR.rem;have hb:=hR.blk;have cm:=hR.small a6;have HS:=gp (λw1 (h:Run ⟨rb,ae,eb,g.procs.length,g,va,vc,pa,pc,ma,mc,f,(· < w.heap.size)⟩ (B9 (λk=>k<a7.heap.size\/k=au) w3 ci) w1 r)=>Zq a6 w1 h);simp only at cl hb HS;rw [hZ];generalize cn:r.st.sv=sv at *;obtain ⟨cells,co,tout⟩:=sv;refine eK ?_;refine Aq (λwz=>Ext a4 wz) 12 (.pure 0 (.pure 1 (.pure 2 (.pure 3 (.pure 4 (.pure 6 (.pure 7 (.pure 8 (.pure 9 (.fork 5 (.pure 10 (.pure 11 .tail)) .none)))))))))) mixed AT (Aa Ag) ?_;intro cp bt _;have ag:(λwz=>Ext a4 wz) cp:=bt;simp only at ag;have cq:=aa;have a0:=h4;have ba:=G;have a9:=M;have a8:=O;have be:=Y;have bf:=hv;have d4:=hR;have d5:=hb;revert aa h4 G M O Y hv X hR hb;refine eY bt ?_;intro fc aa h4 G M O Y hv X hR hb;refine ⟨ag,?_⟩;refine eT ?_;refine tC rfl rfl (HS.out _ Af) ?_;rintro _ d6 ⟨fd,fe,d7,d8,cr,ct,⟨⟩,a5,bu⟩;revert ag aa h4 G M O Y hv X hR hb;refine eY bu ?_;intro d9 ag aa h4 G M O Y hv X hR hb;refine ⟨ag,?_⟩;refine Tq rfl (xB [_,_,_,_,_]) (Tq rfl Pa (At rfl (eS [_,_,_,_,_] O ?_)));intro ea ec bv ed;revert a5 aa h4 G M Y hv X hb;refine eF bv ?_;intro a5 aa h4 G M Y hv X hb;refine cT (AM (QX rfl Ac rfl rfl rfl rfl Af rfl ?_));rw [show I2 s f (.ok r)=⟨⟨cells,co,tout⟩,(f:Int)-r.rem,0⟩ by unfold I2;simp only [cn]]
     exact ⟨_,_,_,_,_,_,_,rfl,SV.sits.wide Af (λb h=>⟨Ab,Ab⟩),cm,X⟩
   . refine kQ (HK.out _ Af) ?_;rintro _ ff ⟨fg,fh,ee,ef,eg,eh,⟨⟩,bw,cu⟩;revert aa h4 G M O Y hv X;refine eY cu ?_;intro ei aa h4 G M O Y hv X;refine C1 Mv (C1 (xB [_,_,_,_,_]) (C1 Pa (eS [_,_,_,_,_] O ?_)));intro ej ek bx el;revert bw aa h4 G M Y hv X;refine eF bx ?_;intro bw aa h4 G M Y hv X;refine cT (AM (Au (QX rfl Ac rfl rfl rfl rfl Af rfl ?_)));subst hZ;exact ⟨_,_,_,_,_,_,_,rfl,SV.sits.wide Af (λb h=>⟨Ab,Ab⟩),aw,X⟩
def ResR (res:ResV) (w:wD):Ending->wD->Prop:=λe w'=> ∃a c ta tc oa oc,e = .returned (.agg (res.row a c ta tc oa oc).toArray)/\res.st.sits (λb=>w.heap.size<=b/\b<w'.heap.size) w' a ta oa/\res.st.small/\Ext w w'
def ResR.ret {G:ResV} {w':wD} (h:ResR G w e w'):∃v,e = .returned v:=by
 obtain ⟨_,_,_,_,_,_,h,-⟩:=h;exact ⟨_,h⟩
def NQ (g:PG) (V:g.wf) (Y:g.ok=true) (h0:g.flt=0) (s:SV) (hf:FitsP g.vars s) (f:Nat) (ab:f<=10000) (d:Nat) (Z:AW (AI g.procs d) false g.main ⟨CG g.vars s g.vars.length,f⟩≠.error (-1))
 (S:nP) (va:oA) (vc:Nat) (pa:oA) (pc:Nat) (ma:oA) (mc:Nat) (ca ta oa:oA) (cc tc oc:Nat) (w:wD) (O:g.sits S w va pa ma) (G:PDsC S w g.procs pa) (ac:g.vars.length<=vc) (U:s.sits S w ca ta oa) :
 Calls prog 48 #[.agg (g.cells va vc pa pc ma mc).toArray,.agg (s.row ca cc ta tc oa oc).toArray,.int .i64 f] w (ResR (I2 s f (AW (AI g.procs d) false g.main ⟨CG g.vars s g.vars.length,f⟩)) w):=by
 have X:=iK w;have O:=O.ltA;have G:=G.ltA;have U:=U.ltA;have HB:=gp (λw1 h1 h2 h3=>Zs g V Y h0 s hf f ab false d Z (· < w.heap.size) va vc pa pc ma mc ca ta oa cc tc oc w1 h1 h2 ac h3);generalize I2 s f _=ad at *;clear V Y h0 hf Z;obtain ⟨⟨cells,aq,tout⟩,n,er⟩:=ad;refine Ad func48 ntmps48 rfl rfl (cS (eB [_,_,_,_,_,_] ?_));intro b1 w2 h4 x5 p6 z7;revert X O G U;refine eE x5 ?_;intro X O G U;refine eB [_,_,_] ?_;intro b8 w9 aa ae ar au;revert h4 X O G U;refine eE ae ?_;intro h4 X O G U;refine eA [_,_,_,_,_] ?_;intro av aw M af ax z22;revert aa h4 X O G U;refine eE af ?_;intro aa h4 X O G U;refine kQ (HB.out _ Af Af Af) ?_;rintro _ ay ⟨az,a0,a1,am,an,ao,ap,⟨⟩,N,a2,ag⟩;revert M X;refine eY ag ?_;intro a3 M X;refine eK ?_;refine eA [_,_,_,_,_] ?_;intro a4 a5 ah ai a6 a7;revert N M X;refine eE ai ?_;intro N M X;refine C1 Pa (eS [_,_,_,_,_] ah ?_);intro a8 a9 aj z46;revert N M X;refine eF aj ?_;intro N M X;refine eK ?_;refine eS [_,_,_,_,_] M ?_;intro ba ak al bb;revert N X;refine eF al ?_;intro N X;refine kX ak ?_;exact ⟨_,_,_,_,_,_,rfl,SV.sits.wide Af (λb h=>⟨Ab,Ab⟩),Af,X⟩
noncomputable def EU (g:PG) (s:SV) (f:Nat):ResV:=
 I2 s f (AW (AI g.procs (Classical.choose (GW g.procs false g.main ⟨CG g.vars s g.vars.length,f⟩))) false g.main ⟨CG g.vars s g.vars.length,f⟩)
def ON (g:PG) (s:SV) (f:Nat):AW (AI g.procs (Classical.choose (GW g.procs false g.main ⟨CG g.vars s g.vars.length,f⟩))) false g.main ⟨CG g.vars s g.vars.length,f⟩≠.error (-1):=
 Classical.choose_spec (GW g.procs false g.main ⟨CG g.vars s g.vars.length,f⟩)
structure VdV where
 ok:Bool
 tried:Int
 st:SV
 err:Int
def VdV.zero:VdV:=⟨false,0,⟨[],[],[]⟩,0⟩
noncomputable instance:DecidableEq SV:=λa b=>Classical.propDecidable _
noncomputable def Xg (g p:PG) (f:Nat):List SV->Int->VdV
 | [],n=>⟨true,n,⟨[],[],[]⟩,0⟩
 | s::l,n=>
  if (EU g s f).err≠0 then Xg g p f l n
  else if (EU p (EU g s f).st f).err=0/\(EU p (EU g s f).st f).st=s then Xg g p f l (Go.IntKind.wrap .i64 (n+1))
  else ⟨false,Go.IntKind.wrap .i64 (n+1),s,(EU p (EU g s f).st f).err⟩
noncomputable instance:DecidableEq VD:=λa b=>Classical.propDecidable _
noncomputable def ED (e:EX) (p:PG):Int:=
 if ¬e.valid then 1
 else if p.ok=false\/p.flt≠0 then 3
 else match p.errs with
  | er::_=>er
  | []=>if p.vars=e.g.vars then 0 else 7
def U7 {e:EX} {p:PG} (N:∀x∈p.errs,x≠0) (h:ED e p=0):e.valid/\p.acc/\p.vars=e.g.vars:=by
 unfold ED at h;split at h
 . exact absurd h CH
 . rename_i O;split at h
   . exact absurd h CH
   . rename_i G;rw [not_or,Bool.not_eq_false,Decidable.not_not] at G;split at h
     . rename_i U l M;exact absurd h (N U (by rw [M];simp))
     . rename_i M;split at h
       . rename_i V;exact ⟨Decidable.not_not.1 O,⟨G.1,G.2,M⟩,V⟩
       . exact absurd h CH
section
variable {ρ:Nat->nP} {a b st:Stp} {s:lB} {c d:Nat}
end
section
variable {st st' a b:Stp} {c d e i:Nat} {v:Int} {xs ys:List Int}
def Zt:(st.all c xs).heap.length=st.heap.length:=by simp [Stp.all]
def Xh:(st.put c i v).heap.length=st.heap.length:=by simp [Stp.put,Stp.all]
def Stp.execT (st:Stp) (k:Int) (i:Nat) (r:Int) (c e d:Nat):Int×Stp:=
 if 40<=k/\k<=42 then (0,st.put c i (VP k ((st.items c).getD i 0) r))
 else if k=43 then
  if r<0\/((st.items e).length:Int)<=r then (12,st)
  else (0,(st.put c i ((st.items e).getD r.toNat 0)).put e r.toNat ((st.items c).getD i 0))
 else if k=44\/k=45 then st.move k c i d
 else st.transfer k c i
def Xi (st:Stp) (k:Int) (s:lB) (l:List Nd):st.exec k s l =
 (let x:=l.getD 0 (.mk 0 0 [] [])
  let y:=l.getD 1 (.mk 0 0 [] [])
  let a:=Bo st.look x
  let r:=if k=43 then Bo st.look y else if 40<=k/\k<=42 then A7 st.look y else (0,0)
  if a.2≠0 then (a.2,st) else if r.2≠0 then (r.2,st) else if a.1<0\/((st.items (st.cellD x.name)).length:Int)<=a.1 then (12,st)
  else st.execT k a.1.toNat r.1 (st.cellD x.name) (st.cellD y.name) (st.cellD s)):=rfl
end
section
variable {st st' a b:Stp} {c d e i:Nat} {v:Int} {xs ys:List Int} {s:lB}
def ZY (a b:Stp):Prop:=a.base=b.base/\a.calls=b.calls/\a.heap.length=b.heap.length
def Sq (st:Stp) (k:Int) (i:Nat) (r:Int) (c e d:Nat):ZY (st.execT k i r c e d).2 st:=by
 unfold Stp.execT Stp.move Stp.transfer
 repeat' split
 all_goals refine ⟨rfl,rfl,?_⟩
 all_goals simp [Xh,Zt]
def MG (st:Stp) (k:Int) (s:lB) (l:List Nd):(st.exec k s l).2=st \/ ∃i r c e d,(st.exec k s l).2=(st.execT k i r c e d).2:=by
 rw [Xi];simp only;generalize (if k=43 then Bo st.look (l.getD 1 (.mk 0 0 [] [])) else if 40<=k/\k<=42 then A7 st.look (l.getD 1 (.mk 0 0 [] [])) else (0,0))=r;generalize Bo st.look (l.getD 0 (.mk 0 0 [] []))=a;split
 . exact gq rfl
 split
 . exact gq rfl
 split
 . exact gq rfl
 . exact gt ⟨_,_,_,_,_,rfl⟩
def U8 (st:Stp) (k n:Int) (s:lB) (l:List Nd):ZY (st.run1 k n s l).2 st:=by
 unfold Stp.run1;split
 . exact ⟨rfl,rfl,rfl⟩
 split
 . exact ⟨rfl,rfl,rfl⟩
 . rcases MG st k s l with h|⟨i,r,c,e,d,h⟩<;>rw [h]
   . exact ⟨rfl,rfl,rfl⟩
   . exact Sq ..
def bG {a b:Stp} (h:a.base=b.base) (G:a.calls=b.calls):a.cur=b.cur:=by unfold Stp.cur;rw [h,G]
end
section
variable {st st':Stp} {k n:Int} {s:lB} {l:List Nd}
end
section
variable {v:List VD}
end
section
variable {st:Stp} {K:List (Int×Int)} {m:Nat}
end
section
variable {ρ:Nat->nP} {st st' a b:Stp} {f g:Frm} {v:List VD}
def MH:(st.setCur f).tin=st.tin:=by unfold ji;split<;>rfl
def KZ:(st.setCur f).tout=st.tout:=by unfold ji;split<;>rfl
def NR (h:a.base=b.base) (G:a.calls=b.calls):(a.setCur f).base=(b.setCur f).base/\(a.setCur f).calls=(b.setCur f).calls:=by
 unfold ji;rw [G];split
 . exact ⟨rfl,rfl⟩
 . exact ⟨h,rfl⟩
def Sr:(st.setCur f).cur=f:=by
 unfold ji Stp.cur;split
 . rename_i h;simp [h]
 . simp
def OO:((st.setCur f).setCur g).base=(st.setCur g).base/\((st.setCur f).setCur g).calls=(st.setCur g).calls:=by
 unfold ji;by_cases h:st.calls=[]
 . simp [h]
 . simp [h]
def QY:(st.setCur st.cur).base=st.base/\(st.setCur st.cur).calls=st.calls:=by
 unfold ji Stp.cur;rcases List.eq_nil_or_concat st.calls with h|⟨l,x,h⟩
 . simp [h]
 . simp [h]
def Xj {d:VD} {x:Int} (h:(st.opens d x).1=0):Ct d.name st.cur.vars=none/\(st.opens d x).2={ st.setCur ⟨st.cur.vars++[d],st.cur.cells++[st.heap.length],st.cur.locals+1⟩ with heap:=st.heap++[if d.kind=1 then [x] else []] }:=by
 unfold Stp.opens at h ⊢;split at h
 . cases h
 . rename_i G;rw [AB G];refine ⟨?_,rfl⟩;cases e:Ct d.name st.cur.vars with
   | none=>rfl
   | some i=>rw [e] at G;exact absurd rfl G
end
section
variable {ρ:Nat->nP} {st st' a b:Stp} {f g:Frm} {v:List VD}
end
section
variable (ps:List PD) (d:Nat) (b:Bool) (n:Int) (s:lB) (l:List Nd)
end
def Xk (h:s.cells.length=vs.length):CG vs s vs.length=⟨s.cells,⟨vs,it vs.length,0⟩,[],s.tin,s.tout⟩:=by
 unfold CG;rw [List.take_of_length_le Ab,gF]
structure Fin_ (st:Stp):Prop where
 wf:∃K m,st.WF K m
 tin:st.tin.length<=4096
 tout:st.tout.length<=4096
def Kpt (a b:Stp):Prop:=Fin_ b/\b.base=a.base/\b.calls=a.calls
def Kpt.refl {a:Stp} (h:Fin_ a):Kpt a a:=⟨h,rfl,rfl⟩
def Kpt.trans {a b c:Stp} (h:Kpt a b) (k:Kpt b c):Kpt a c:=⟨k.1,k.2.1.trans h.2.1,k.2.2.trans h.2.2⟩
def KeepX (f:Rn->Except Int Rn):Prop:= ∀r r',Fin_ r.st->f r = .ok r'->Kpt r.st r'.st
def Ss (st:Stp) (k:Int) (s:lB) (l:List Nd) (G:st.tin.length<=4096) (M:st.tout.length<=4096):(st.exec k s l).2.tin.length<=4096/\(st.exec k s l).2.tout.length<=4096:=by
 rcases MG st k s l with h|⟨i,r,c,e,d,h⟩<;>rw [h]
 . exact ⟨G,M⟩
 unfold Stp.execT Stp.move Stp.transfer
 repeat' split
 all_goals first
  | exact ⟨G,M⟩
  | exact ⟨by simp only [gD];omega,M⟩
  | exact ⟨G,by simp only [gO,gD,hH];omega⟩
  | exact ⟨G,by simp only [List.length_dropLast];omega⟩
  | (rename_i N _;rw [N] at G;exact ⟨by simp at G ⊢;omega,M⟩)
def Zu (h:Fin_ st) (k n:Int) (s:lB) (l:List Nd):Kpt st (st.run1 k n s l).2:=by
 obtain ⟨⟨K,m,O⟩,G,M⟩:=h;obtain ⟨U,V,-⟩:=U8 st k n s l;have N:(st.run1 k n s l).2.tin.length<=4096/\(st.run1 k n s l).2.tout.length<=4096:=by
  unfold Stp.run1;split
  . exact ⟨G,M⟩
  split
  . exact ⟨G,M⟩
  . exact Ss st k s l G M
 exact ⟨⟨⟨K,m,O.run1 k n s l⟩,N.1,N.2⟩,U,V⟩
def QZ {G:Stp} (h:Fin_ st) {v:VD} (hv:v.kind=1\/v.kind=3) {x y:Int} {s:lB} (ho:(st.opens v x).1=0) (hb:Fin_ (st.opens v x).2->Kpt (st.opens v x).2 G) (M:(G.closes s y).1=0):Kpt st (G.closes s y).2:=by
 obtain ⟨⟨K,m,hw⟩,h1,h2⟩:=h;obtain ⟨K',V⟩:=hw.opens hv x;obtain ⟨-,U⟩:=Xj ho;have hF:Fin_ (st.opens v x).2:=⟨⟨_,_,V⟩,by rw [U];show (st.setCur _).tin.length<=4096;rw [MH];exact h1,by rw [U];show (st.setCur _).tout.length<=4096;rw [KZ];exact h2⟩;obtain ⟨⟨⟨K2,m2,X⟩,t1,t2⟩,Z,b2⟩:=hb hF;have N:G.cur=⟨st.cur.vars++[v],st.cur.cells++[st.heap.length],st.cur.locals+1⟩:=by
  rw [bG Z b2,U];exact Sr (st:=st)
 have Y:(G.closes s y).2=G.setCur st.cur:=by
  unfold Stp.closes at M ⊢;simp only at M ⊢;split at M
  . simp at M
  . rename_i q1;rw [AB q1];split at M
    . simp at M
    . rename_i q2;rw [AB q2,N];simp
 obtain ⟨f1,f2⟩:=NR (f:=st.cur) Z b2;have e2:(((st.opens v x).2).setCur st.cur).base=st.base/\(((st.opens v x).2).setCur st.cur).calls=st.calls:=by
  rw [U];obtain ⟨g1,g2⟩:=OO (st:=st) (f:=⟨st.cur.vars++[v],st.cur.cells++[st.heap.length],st.cur.locals+1⟩) (g:=st.cur);obtain ⟨g3,g4⟩:=QY (st:=st);obtain ⟨g5,g6⟩:=NR (a:={ st.setCur ⟨st.cur.vars++[v],st.cur.cells++[st.heap.length],st.cur.locals+1⟩ with heap:=st.heap++[if v.kind=1 then [x] else []] }) (b:=st.setCur ⟨st.cur.vars++[v],st.cur.cells++[st.heap.length],st.cur.locals+1⟩) (f:=st.cur) rfl rfl;exact ⟨g5.trans (g1.trans g3),g6.trans (g2.trans g4)⟩
 have O:=X.closes s y;rw [Y] at O ⊢;exact ⟨⟨⟨_,_,O⟩,by rw [MH];exact t1,by rw [KZ];exact t2⟩,f1.trans e2.1,f2.trans e2.2⟩
def Stp.WF.up {K:List (Int×Int)} {m':Nat} (h:st.WF K m) (G:m<=m'):st.WF K m':=⟨h.len,h.base,h.calls,h.cell,h.nc,λf M=>Nat.le_trans (h.vb f M) G⟩
def U9 {st2:Stp} (h:Fin_ st) {ps:List VD} {qs:List lB} (ho:(st.enters ps qs).1=0) (hb:Fin_ (st.enters ps qs).2->Kpt (st.enters ps qs).2 st2) (hc:(st2.leaves).1=0):Kpt st (st2.leaves).2:=by
 obtain ⟨⟨K,m,hw⟩,h1,h2⟩:=h;have b:=(hw.up (Nat.le_max_left m ps.length)).enters (Nat.le_max_right m ps.length) qs;obtain ⟨fr,e1⟩:∃fr,(st.enters ps qs).2={ st with calls:=st.calls++[fr] }:=by
  unfold Stp.enters at ho ⊢;split at ho
  . simp at ho
  . rename_i q1;rw [AB q1];split at ho
    . rename_i q2;exact absurd ho q2
    . rename_i q2;rw [AB q2];split at ho
      . simp at ho
      . rename_i q3;rw [AB q3];exact ⟨_,rfl⟩
 obtain ⟨⟨⟨K2,m2,c⟩,t1,t2⟩,b1,b2⟩:=hb ⟨⟨_,_,b⟩,by rw [e1];exact h1,by rw [e1];exact h2⟩;have a:=c.leaves;have hl:(st2.leaves).2={ st2 with calls:=st2.calls.dropLast }:=by
  unfold Stp.leaves at hc ⊢;split at hc
  . simp at hc
  . rename_i q1;rw [AB q1]
 rw [hl] at a ⊢;refine ⟨⟨⟨_,_,a⟩,t1,t2⟩,?_,?_⟩
 . show st2.base=st.base;rw [b1,e1]
 . show st2.calls.dropLast=st.calls;rw [b2,e1];simp
def KeepX.row {f:Nd->Rn->Except Int Rn}:∀(l:List Nd),(∀t,KeepX (f t))->KeepX (Gf f l)
 | [],_,r,O,G,h=>by
  simp only [Gf,Except.ok.injEq] at h;subst h;exact .refl G
 | t::l,M,r,O,G,h=>by
  simp only [Gf] at h;obtain ⟨a,U,V⟩:=A6 h;have N:=M t _ _ G U;exact N.trans (KeepX.row l M _ _ N.1 V)
def KeepX.block {f:Bool->Nd->Rn->Except Int Rn} (h:∀b t,KeepX (f b t)) (b:Bool) (t:Nd):KeepX (AW f b t):=KeepX.row _ (h b)
def KeepX.loop {M N:Rn->Except Int Rn} {test entry:Nd} (O:KeepX M) (U:KeepX N):∀m,KeepX (Cw M N test entry m)
 | 0,r,r',_,h=>by simp [Cw] at h
 | m+1,r,r',hF,h=>by
  simp only [Cw] at h;obtain ⟨V,k1,h⟩:=A6 h;obtain ⟨a2,k2,h⟩:=A6 h;have G:=O _ _ hF k1;obtain ⟨-,X,-⟩:=Fx k2;split at h
  . simp only [Except.ok.injEq] at h;subst h;rw [X];exact G
  . obtain ⟨a3,Y,h⟩:=A6 h;obtain ⟨a4,k4,h⟩:=A6 h;rw [X] at Y;have Z:=U ⟨V.st,V.rem-1⟩ _ G.1 Y;obtain ⟨-,e4,-⟩:=D0 k4;rw [e4] at h;exact G.trans (Z.trans (KeepX.loop O U m ⟨a3.st,a3.rem-1⟩ _ Z.1 h))
def NS (ps:List PD):∀(d:Nat) (b:Bool) (t:Nd),KeepX (AI ps d b t)
 | 0,b,t,r,r',_,h=>by simp [AI] at h
 | d+1,b,.mk k n s l,r,r',M,h=>by
  have N:∀b t,KeepX (AW (AI ps d) b t):=KeepX.block (NS ps d);unfold AI at h;by_cases c1:k=52
  . simp only [AQ c1] at h;obtain ⟨p,G,h⟩:=A6 h;obtain ⟨c,O,h⟩:=A6 h;obtain ⟨-,e2,-⟩:=Fx G;rw [e2] at O;have e3:=N _ _ ⟨r.st,r.rem-1⟩ _ M O;obtain ⟨-,e5,-⟩:=D0 h;rw [e5];exact e3
  simp only [AB c1] at h;by_cases c2:k=53
  . simp only [AQ c2] at h;obtain ⟨c,O,h⟩:=A6 h;obtain ⟨-,e5,-⟩:=D0 O;rw [e5] at h;exact KeepX.loop (N b _) (N b _) d ⟨r.st,r.rem-1⟩ _ M h
  simp only [AB c2] at h;by_cases c3:k=54
  . simp only [AQ c3] at h;obtain ⟨a1,G,h⟩:=A6 h;obtain ⟨a2,O,h⟩:=A6 h;obtain ⟨a3,U,h⟩:=A6 h;obtain ⟨a4,V,h⟩:=A6 h;obtain ⟨a5,X,h⟩:=A6 h;obtain ⟨a6,k6,h⟩:=A6 h;obtain ⟨-,rfl⟩:=CC G;obtain ⟨Y,rfl⟩:=ES U;obtain ⟨-,rfl⟩:=CC X;obtain ⟨Z,rfl⟩:=ES h;exact QZ M (gq rfl) Y (λhG=>N _ _ _ _ hG V) Z
  simp only [AB c3] at h;by_cases c4:k=55
  . simp only [AQ c4] at h;obtain ⟨a1,G,h⟩:=A6 h;obtain ⟨a3,U,h⟩:=A6 h;obtain ⟨a4,V,h⟩:=A6 h;obtain ⟨a5,X,h⟩:=A6 h;obtain ⟨-,rfl⟩:=CC G;obtain ⟨Y,rfl⟩:=ES U;obtain ⟨-,rfl⟩:=CC X;obtain ⟨Z,rfl⟩:=ES h;exact QZ M (gt rfl) Y (λhG=>N _ _ _ _ hG V) Z
  simp only [AB c4] at h;by_cases c5:k=50\/k=51
  . simp only [AQ c5] at h;obtain ⟨a1,G,h⟩:=A6 h;obtain ⟨a3,U,h⟩:=A6 h;obtain ⟨a4,V,h⟩:=A6 h;obtain ⟨a5,X,h⟩:=A6 h;obtain ⟨-,rfl⟩:=CC G;obtain ⟨Y,rfl⟩:=ES U;obtain ⟨-,rfl⟩:=CC X;obtain ⟨Z,rfl⟩:=ES h;exact U9 M Y (λhG=>N _ _ _ _ hG V) Z
  . simp only [AB c5] at h;obtain ⟨a1,G,h⟩:=A6 h;obtain ⟨-,rfl⟩:=CC G;obtain ⟨-,rfl⟩:=ES h;exact Zu M ..
def Xl {ps:List PD} (hf:FitsP vs s) {d F:Nat} {b:Bool} {t:Nd} {r:Rn} (h:AW (AI ps d) b t ⟨CG vs s vs.length,F⟩ = .ok r):FitsP vs r.st.sv:=by
 have M:=TA hf;obtain ⟨hv,h3,h4,h5,h6⟩:=hf;rw [Xk h3] at h M;obtain ⟨⟨⟨K,m,hw⟩,t1,t2⟩,V,-⟩:=KeepX.block (NS ps d) b t _ _ ⟨⟨_,_,M⟩,h4,h5⟩ h;simp only at V;have N:r.st.sv.cells.length=vs.length:=by
  unfold Stp.sv;rw [V];simp
 have G:∀i,i<vs.length->r.st.sv.cells[i]? = some (r.st.items i):=λi X=>by
  unfold Stp.sv;rw [V];simp [X]
 refine ⟨hv,N,t1,t2,λi v xs Y h8=>?_⟩;have X:=(List.getElem?_eq_some_iff.1 Y).1;rw [G i X] at h8;obtain rfl:=gB h8;have hb:=hw.base;rw [V] at hb;have hk:=hb.kind i v i Y (by simp [X]);have Z:=hv.2 v (io Y);unfold IR at Z;unfold MV CT;rcases hw.cell _ _ hk with ⟨O,U⟩|⟨O,U,-⟩|⟨O,U⟩<;>simp only at O U
 . rw [AB Ab,AQ O];omega
 . rw [AB Ab,AB Ab];exact U
 . rw [AQ O];exact U
def Xm (h:FitsP g.vars s) (f:Nat):FitsP g.vars (EU g s f).st:=by
 unfold EU;generalize Classical.choose _=d;cases hx:AW (AI g.procs d) false g.main ⟨CG g.vars s g.vars.length,f⟩ with
 | error e=>exact h
 | ok r=>exact Xl h hx
def Zv (p:PG):∀x∈p.errs,x≠0:=by
 have h:∀l:List Nd,∀x∈Cc l,x≠0:=λl x G=>by
  unfold Cc at G;simpa using (List.mem_filter.1 G).2
 intro x G;unfold PG.errs at G;split at G
 . rcases List.mem_append.1 G with G|G
   . unfold Dc at G;rw [List.mem_flatMap] at G;obtain ⟨q,-,G⟩:=G;exact h _ x G
   . exact h _ x G
 . cases G
def Q0 (g p:PG) (f:Nat) (s:SV) (l:List SV) (n:Int):Xg g p f (s::l) n=if (EU g s f).err≠0 then Xg g p f l n
 else if (EU p (EU g s f).st f).err=0/\(EU p (EU g s f).st f).st=s then Xg g p f l (Go.IntKind.wrap .i64 (n+1))
 else ⟨false,Go.IntKind.wrap .i64 (n+1),s,(EU p (EU g s f).st f).err⟩:=rfl
noncomputable def BU (e:EX) (p:PG):VdV×Int:=if ED e p≠0 then (VdV.zero,ED e p) else (Xg e.g p e.fuel.toNat (MY e.g.vars e.box) 0,0)
def St (l m:List (List Int)) (S S':nP) (a Z:oA) (c c':Nat) (w:wD) (hl:l.length<=1000000) (hf:∀xs∈l,xs.length<=1000000) (aa:∀xs∈m,xs.length<=1000000) (N:ICs S w l a) (G:ICs S' w m Z) :
 Calls prog 123 #[.slice a l.length c,.slice Z m.length c',.func (.func 124) #[] #[]] w λe w'=> ∃q,e = .returned (.bool q)/\(q=true↔l=m)/\Ext w w':=by
 have X:=iK w;rcases Decidable.em (l.length=m.length) with hn|hn
 case inr=>
  refine Ad func123 ntmps123 rfl rfl (kR ?_);exact ⟨false,rfl,⟨λh=>(by cases h),λh=>absurd (by rw [h]) hn⟩,X⟩
 refine Ad func123 ntmps123 rfl rfl (eK ?_);have N:=N.ltA;have G:=G.ltA;refine AG (ι:=Nat) (λj=>[(1,.slice Z m.length c'),(2,.func (.func 124) #[] #[]),(15,.slice a l.length c),(16,.int .i64 l.length),(17,.int .i64 j)])
  (λj w'=>j<=l.length/\l.take j=m.take j/\ICs (· < w.heap.size) w' l a/\ICs (· < w.heap.size) w' m Z/\Ext w w') (λj=>l.length-j) 0 sB ⟨gC _,rfl,N,G,X⟩ ?_
 clear N G X;rintro j w1 ⟨hj,ht,N,G,X⟩;by_cases O:j<l.length
 . have M:j<m.length:=by omega
   obtain ⟨kb,ko,rfl,kS,hk⟩:=N.get (by intro e;subst e;simp at O);obtain ⟨ag,ah,rfl,ai,V⟩:=G.get (by intro e;subst e;simp at M);obtain ⟨xa,xc,r1,v1⟩:=hk j _ (gm O);obtain ⟨ab,ac,r2,v2⟩:=V j _ (gm M);have p1:=hf _ (gA O);have p2:=aa _ (gA M);have Y:l[j]=m[j]->l.take (j+1)=m.take (j+1):=λh=>by rw [gx O,gx M,ht,h]
   have ad:l[j]≠m[j]->l≠m:=λh e=>h (by subst e;rfl)
   clear hk V;generalize l[j]=x at *;generalize m[j]=y at *;have HP:=gp (λw1 h h'=>LH x y p1 p2 xa ab xc ac w1 (F6 (S:=(· < w.heap.size)) h) (F6 (S:=(· < w.heap.size)) h'));by_cases U:x=y
   . rw [decide_eq_true U] at HP;refine eK ?_;refine Ax (A9 (fi:=[]) (ca:=[]) AT rfl rfl (HP.out _ Af Af) (λ_ _ h=>⟨_,h.1⟩)) rfl ?_ aFh;rintro aj ak ⟨⟨⟩,ae⟩;revert X N G;refine eE ae ?_;intro X N G;refine eK ?_;exact Aw (j+1) sB ⟨Ab,Y U,N,G,X⟩ Ab
   . rw [decide_eq_false U] at HP;refine eK ?_;refine Ax (A9 (fi:=[]) (ca:=[]) AT rfl rfl (HP.out _ Af Af) (λ_ _ h=>⟨_,h.1⟩)) rfl ?_ aFh;rintro al am ⟨⟨⟩,af⟩;have X:=X.ext af;refine kR ?_;exact ⟨false,rfl,⟨λh=>(by cases h),λh=>absurd h (ad U)⟩,X⟩
 . obtain rfl:j=l.length:=by omega
   rw [gF,hn,gF] at ht;refine kR ?_;exact ⟨true,rfl,⟨λ_=>ht,λ_=>rfl⟩,X⟩
def Va (s t:SV) (ai:s.small) (aj:t.small) (S S':nP) (a ta oa a' V Y:oA) (c tc oc c' ac ad:Nat) (w:wD) (hs:s.sits S w a ta oa) (ak:t.sits S' w a' V Y) :
 Calls prog 87 #[.agg (s.row a c ta tc oa oc).toArray,.agg (t.row a' c' V ac Y ad).toArray] w λe w'=> ∃q,e = .returned (.bool q)/\(q=true↔s=t)/\Ext w w':=by
 have X:=iK w;obtain ⟨cells,af,tout⟩:=s;obtain ⟨M,ab,O⟩:=t;obtain ⟨h1,h2,h3⟩:=hs;obtain ⟨Z,N,G⟩:=ak;obtain ⟨m1,m2,m3,m4⟩:=ai;obtain ⟨ar,ag,al,am⟩:=aj;simp only [SV.mk.injEq] at *;have HE:=gp (λw1 h h'=>St cells M S S' a a' c c' w1 m1 m2 ag h h');have HI:=gp (λw1 h h'=>LH af ab m3 al ta V tc ac w1 (F6 (S:=S) h) (F6 (S:=S') h'));have HO:=gp (λw1 h h'=>LH tout O m4 am oa Y oc ad w1 (F6 (S:=S) h) (F6 (S:=S') h'));clear m2 ag;change Calls prog _ #[.agg #[.slice a cells.length c,.slice ta af.length tc,.slice oa tout.length oc],.agg #[.slice a' M.length c',.slice V ab.length ac,.slice Y O.length ad]] w _;refine Ad func87 ntmps87 rfl rfl ?_
 focus
  refine cS (eB [_,_,_] ?_);intro b1 w2 h4 x5 _ _;revert X h1 h2 h3 Z N G;refine eE x5 ?_;intro X h1 h2 h3 Z N G;refine eB [_,_,_] ?_;intro b8 w9 U an _ _;revert h4 X h1 h2 h3 Z N G;refine eE an ?_;intro h4 X h1 h2 h3 Z N G;refine eK ?_;refine Ax (AR AT rfl (HE.out _ Af Af) (λ_ _ ⟨_,h⟩=>⟨_,h.1⟩)) rfl ?_ aFh;rintro _ au ⟨av,⟨⟩,ah,ao⟩;revert U h4 X h2 h3 N G;refine eE ao ?_;intro U h4 X h2 h3 N G;refine C1 Mv (N3 rfl rfl rfl (λaa=>?_) (λaa=>?_));refine A1 rfl rfl rfl (G9 Af) (C1 Pf (A1 rfl rfl rfl (G9 Af) (C1 (Pl h4) (A1 rfl rfl rfl (G9 Af) (C1 Pf (A1 rfl rfl rfl (G9 Af) (C1 (Pl U) (A1 rfl rfl rfl (G9 Af) (cC rfl (HI.out _ Af Af) ?_)))))))));rintro _ aw ⟨⟨⟩,ap⟩;revert U h4 X h3 G;refine eE ap ?_;intro U h4 X h3 G;refine C1 (BM rfl rfl Af) (C1 Mv (BY rfl rfl rfl (λae=>?_) (λae=>?_)));refine kC (HO.out _ Af Af) ?_;rintro _ ax ⟨⟨⟩,aq⟩;have X:=X.ext aq;refine kR ?_;rotate_left;refine kR ?_;rotate_left;refine Be rfl rfl rfl (Ha Af) rfl (Be rfl rfl rfl (Ha Af) rfl (Be rfl rfl rfl (Ha Af) rfl (Be rfl rfl rfl (Ha Af) rfl (Be rfl rfl rfl (Ha Af) rfl (C1 (Bm rfl rfl Af) (kR ?_))))));rotate_left
 . exact ⟨_,rfl,⟨λh=>⟨ah.1 aa,ae,of_decide_eq_true h⟩,λh=>decide_eq_true h.2.2⟩,X⟩
 . exact ⟨false,rfl,⟨λh=>(by cases h),λh=>absurd h.2.1 ae⟩,X⟩
 . exact ⟨false,rfl,⟨λh=>(by cases h),λh=>by rw [ah.2 h.1] at aa;cases aa⟩,X⟩
def JL {P:Program} {d:Nat} {xs ys:Array Value} {w:wD} {B:Nat->Bool}:∀(G:List Field),(∀f∈G,(f.name == "_")=false /\ ∃u v,(part f.type xs f.offset).run P w = .ok u w/\(part f.type ys f.offset).run P w = .ok v w/\(iJ d f.type u v).run P w = .ok (B f.offset) w)->(Op.eqFields d xs ys G).run P w = .ok (G.all λf=>B f.offset) w
 | [],_=>by simp [Op.eqFields]
 | f::G,h=>by
  obtain ⟨M,u,v,N,O,U⟩:=h f List.mem_cons_self;have V:=JL (P:=P) (d:=d) (xs:=xs) (ys:=ys) (w:=w) (B:=B) G (λg X=>h g (List.mem_cons_of_mem _ X))
  unfold Op.eqFields
  rw [AQ (show f.name ≠ "_" from λe=>by rw [e] at M;cases M)]
  cases hb:B f.offset
  . simp [gE,N,O,U,hb,Result.andThen_ok]
  . simp [gE,N,O,U,hb,Result.andThen_ok,V]
def Vb (u v:VD) (o:Nat):Bool:=if o=0 then decide (u.name=v.name) else if o=1 then decide (u.kind=v.kind) else decide (u.len=v.len)
def Su (u v:VD) (w:wD):(iJ 10000 77 u.val v.val).run prog w = .ok (Vb u v 0&&(Vb u v 1&&Vb u v 2)) w:=by
 rw [show (10000:Nat)=9999+1 from rfl,run_equalIn_agg w 9999 _ _ _ P4 P5];rw [JL (B:=Vb u v) _ (λf O=>?_)]
 . have e:((prog.fieldsOf 77).toList.all λf=>Vb u v f.offset)=(((prog.fieldsOf 77).toList.map (λf=>(f.name == "_",f.type,f.offset))).all λt=>Vb u v t.2.2):=by rw [List.all_map];rfl
   rw [e,JZ];simp only [List.all_cons,List.all_nil,Bool.and_true]
 . have N:(f.name == "_",f.type,f.offset)∈(prog.fieldsOf 77).toList.map (λf=>(f.name == "_",f.type,f.offset)):=List.mem_map.2 ⟨f,O,rfl⟩
   rw [JZ] at N;simp only [ik,iH,or_false,Prod.mk.injEq] at N
   rcases N with ⟨h,G,M⟩|⟨h,G,M⟩|⟨h,G,M⟩
   . rw [G,M]
     refine ⟨h,str u.name,str v.name,Ec (cs:=u.cells) Ac rfl rfl rfl w,Ec (cs:=v.cells) Ac rfl rfl rfl w,?_⟩
     rw [run_equalIn_string w 9998 _ _ _ (show prog.underlying 9=some .string from (Ac 9 .str 1 rfl).under)];simp [Vb,FG]
   . rw [G,M]
     refine ⟨h,.int .u8 u.kind,.int .u8 v.kind,Ec (cs:=u.cells) Ac rfl rfl rfl w,Ec (cs:=v.cells) Ac rfl rfl rfl w,?_⟩
     rw [run_equalIn_int w 9998 _ _ .u8 _ _ (show prog.underlying 5=some (.int .u8) from (Ac 5 (.int .u8) 1 rfl).under)];simp [Vb,FG]
   . rw [G,M]
     refine ⟨h,.int .i64 u.len,.int .i64 v.len,Ec (cs:=u.cells) Ac rfl rfl rfl w,Ec (cs:=v.cells) Ac rfl rfl rfl w,?_⟩
     rw [run_equalIn_int w 9998 _ _ .i64 _ _ (show prog.underlying 3=some (.int .i64) from (Ac 3 (.int .i64) 1 rfl).under)];simp [Vb,FG]
def bJ {u v:VD} (h:u≠v):(Vb u v 0&&(Vb u v 1&&Vb u v 2))=false:=by
 obtain ⟨un,O,U⟩:=u;obtain ⟨V,X,Y⟩:=v;rw [<-Bool.not_eq_true];intro e;simp only [Vb,gu] at e;obtain ⟨G,M,N⟩:=e;simp at G M N;exact h (by rw [G,M,N])
def Xo {S:wD->Prop} {ty t':TypeId} {y:Operand} {u v:VD} (h:u≠v) (M:ev l x=some u.val) (N:ev l y=some v.val):Bh prog n l S (.binOp .neq 77 x y t') ty (.bool true):=by
 unfold Bh;intro a w O pos after g G _;have U:=run_eqGuard_agg (P:=prog) w .neq 77 x y u.cells.toArray v.cells.toArray P6;have V:(binOp .neq 77 u.val v.val).run prog w = .ok (.bool true) w:=by
  rw [run_neq_struct,Su,bJ h];rfl
 simp only [execOp,G.ev M,G.ev N,gE,U,V,Result.andThen_ok,gP]
def Sw (l m:List VD) (S S':nP) (a a':oA) (c c':Nat) (w:wD) (hl:l.length<=1000000000) (U:VDs S w l a) (G:VDs S' w m a') :
 Calls prog 82 #[.slice a l.length c,.slice a' m.length c'] w λe w'=> ∃q,e = .returned (.bool q)/\(q=true↔l=m)/\Ext w w':=by
 have X:=iK w;rcases Decidable.em (l.length=m.length) with hn|hn
 case inr=>
  refine Ad func82 ntmps82 rfl rfl (kR ?_);exact ⟨false,rfl,⟨λh=>(by cases h),λh=>absurd (by rw [h]) hn⟩,X⟩
 refine Ad func82 ntmps82 rfl rfl (eK ?_);refine AG (ι:=Nat) (λj=>[(0,.slice a l.length c),(1,.slice a' m.length c'),(12,.int .i64 l.length),(13,.int .i64 j)]) (λj w'=>VDs S w' l a/\VDs S' w' m a'/\l.take j=m.take j/\Ext w w'/\j<=l.length) (λj=>l.length-j) 0 sB ⟨U,G,rfl,X,gC _⟩ ?_;clear U G X;rintro j w1 ⟨U,G,ht,X,hj⟩;by_cases af:j<l.length
 . have ab:j<m.length:=by omega
   obtain ⟨kb,ko,rfl,-,hk⟩:=i9 U Ab;obtain ⟨aj,ak,rfl,-,ag⟩:=i9 G Ab;have r1:Row w1 ⟨kb,ko+j*3,none⟩ l[j].cells:=hk j _ (gm af);have r2:Row w1 ⟨aj,ak+j*3,none⟩ m[j].cells:=ag j _ (gm ab);have ac:l[j]=m[j]->l.take (j+1)=m.take (j+1):=λh=>by rw [gx af,gx ab,ht,h]
   have ad:l[j]≠m[j]->l≠m:=λh e=>h (by subst e;rfl)
   clear hk ag;generalize l[j]=x at *;generalize m[j]=y at *;by_cases ae:x=y
   . subst ae;refine eK ?_;refine Aq (λV=>Ext w1 V) 8 (.pure 0 (.pure 1 (.pure 2 (.pure 3 (.pure 4 (.pure 5 (.pure 6 (.pure 7 .tail)))))))) mixed AT (Aa (Ae (Aa (Aa (Ae (Aa Ag)))))) ?_;intro al ah _;have Y:(λV=>Ext w1 V) al:=ah;simp only at Y;have Z:=U;have O:=G;have M:=r1;have N:=r2;revert X U G r1 r2;refine eY ah ?_;intro an X U G r1 r2;refine ⟨Y,?_⟩;refine eT ?_;refine Tq rfl (BE Ac rfl rfl rfl (λV hz=>(iO M hz)) rfl) (eT ?_);refine Tq rfl (BE Ac rfl rfl rfl (λV hz=>(iO N hz)) rfl) ?_;clear Y Z O M N;refine At rfl (C1 (UF (v:=x) rfl rfl) (eK ?_));exact Aw (j+1) sB ⟨U,G,ac rfl,X,Ab⟩ Ab
   . have ad:=ad ae;clear ac;refine eK ?_;refine Aq (λV=>Ext w1 V) 8 (.pure 0 (.pure 1 (.pure 2 (.pure 3 (.pure 4 (.pure 5 (.pure 6 (.pure 7 .tail)))))))) mixed AT (Aa (Ae (Aa (Aa (Ae (Aa Ag)))))) ?_;intro am ai _;have aa:(λV=>Ext w1 V) am:=ai;simp only at aa;have Z:=U;have O:=G;have M:=r1;have N:=r2;revert X U G r1 r2;refine eY ai ?_;intro ao X U G r1 r2;refine ⟨aa,?_⟩;refine eT ?_;refine Tq rfl (BE Ac rfl rfl rfl (λV hz=>(iO M hz)) rfl) (eT ?_);refine Tq rfl (BE Ac rfl rfl rfl (λV hz=>(iO N hz)) rfl) ?_;clear aa Z O M N;refine At rfl (C1 (Xo (u:=x) (v:=y) ae rfl rfl) (kR ?_));exact ⟨false,rfl,⟨λh=>(by cases h),λh=>absurd h ad⟩,X⟩
 . obtain rfl:j=l.length:=by omega
   rw [gF,hn,gF] at ht;refine kR ?_;exact ⟨true,rfl,⟨λ_=>ht,λ_=>rfl⟩,X⟩
def Xp (g:PG) (h:g.wf) (G:g.ok=false) (S:nP) (M:oA) (vc:Nat) (N:oA) (V:Nat) (O:oA) (Y:Nat) (w:wD) (U:g.sits S w M N O) :
 Calls prog 70 #[.agg (g.cells M vc N V O Y).toArray] w (ChkR [] w):=by
 have Z:=gp (FP h G);have X:=iK w;clear h G;refine Ad func70 ntmps70 rfl rfl (cS (eB [_,_,_,_,_,_] ?_));intro b1 w2 h4 x5 _ _;revert U X;refine eE x5 ?_;intro U X;refine kC (Z.out _ _ _ _ _ _ _ _ Af) ?_;rintro _ w9 ⟨⟨⟩,x8⟩;have X:=X.ext x8;refine kR ?_;exact ⟨none,0,rfl,OwnQ.nil,X,λ_=>⟨rfl,rfl⟩⟩
def Zw (e:EX) (hw:e.wf) (p:PG) (hp:p.wf) (d8:p.vars.length<=1000000) (S:nP) (va:oA) (vc:Nat) (pa:oA) (pc:Nat) (ma:oA) (mc:Nat) (ae:oA) (al:Nat) (an:oA) (ap:Nat) (ao:oA) (aq:Nat) (w:wD)
 (U:e.sits S w va pa ma vc) (G:p.sits S w ae an ao) (M:PDsC S w p.procs an) (a0:p.vars.length<=al) :
 Calls prog 46 #[.agg (e.cells va vc pa pc ma mc).toArray,.agg (p.cells ae al an ap ao aq).toArray] w λr w'=>r = .returned (.int .i64 (ED e p))/\Ext w w':=by
 have X:=iK w;have U:=U.ltA;have G:=G.ltA;have M:=M.ltA;have HE:=gp (λw1 h=>J7 e hw (· < w.heap.size) va vc pa pc ma mc w1 h);have HV:=gp (λ(q:Bool) (h:p.ok=q)=>FP hp h);have HS:=gp (λ(h:p.ok=true) w1 h1 h2=>Jw p hp h (· < w.heap.size) ae al an ap ao aq w1 h1 h2 a0);have HC:=gp (λ(h:p.ok=true) w1 h1 h2=>Qk p hp h (· < w.heap.size) ae al an ap ao aq w1 h1 h2 a0);have HN:=gp (λ(h:p.ok=false) w1 h1=>Xp p hp h (· < w.heap.size) ae al an ap ao aq w1 h1);have HQ:=gp (λw1 (h1:VDs (· < w.heap.size) w1 p.vars ae) (h2:VDs (· < w.heap.size) w1 e.g.vars va)=>Sw p.vars e.g.vars _ _ ae va al vc w1 Ab h1 h2);have N:=U.g.vars;have O:=G.vars;unfold EX.cells ED at *;generalize ar:decide e.valid=q1 at *;rcases Decidable.em e.valid with h1|h1
 case inr=>
  rw [decide_eq_false h1] at ar;subst ar;rw [AQ h1];clear HV HS HC HN HQ hp hw;refine Ad func46 ntmps46 rfl rfl (cS (eB [_,_,_,_,_,_,_,_,_,_,_,_] ?_));intro b1 w2 h4 x5 p6 z7;revert X U G M N O;refine eE x5 ?_;intro X U G M N O;refine eB [_,_,_,_,_,_] ?_;intro b8 w9 a1 bs d9 ea;revert h4 X U G M N O;refine eE bs ?_;intro h4 X U G M N O;refine eK ?_;refine A3 [_,_,_,_,_,_,_,_,_,_,_,_] Ac rfl rfl rfl h4 rfl rfl rfl (cC rfl (HE.out _ Af) ?_);rintro _ eb ⟨⟨⟩,bt⟩;revert a1 h4 X U G M N O;refine eY bt ?_;intro ec a1 h4 X U G M N O;refine kR ?_;exact ⟨rfl,X⟩
 rw [decide_eq_true h1] at ar;subst ar;rw [AB (λh=>h h1)];cases hok:p.ok
 . have HV:=gp (HV.out _ hok);have HN:=gp (HN.out hok);rw [AQ (gq rfl)];clear HS HC HQ hp hw hok h1;refine Ad func46 ntmps46 rfl rfl (cS (eB [_,_,_,_,_,_,_,_,_,_,_,_] ?_));intro ed ee ak bu ef eg;revert X U G M N O;refine eE bu ?_;intro X U G M N O;refine eB [_,_,_,_,_,_] ?_;intro eh ei ag a2 b0 b2;revert ak X U G M N O;refine eE a2 ?_;intro ak X U G M N O;refine eK ?_;refine A3 [_,_,_,_,_,_,_,_,_,_,_,_] Ac rfl rfl rfl ak rfl rfl rfl (cC rfl (HE.out _ Af) ?_);rintro _ b3 ⟨⟨⟩,a3⟩;revert ag ak X U G M N O;refine eY a3 ?_;intro b4 ag ak X U G M N O;refine kQ (HN.out _ Af) ?_;rintro _ b5 ⟨b6,b7,⟨⟩,au,a4,b9⟩;revert ag ak X U G M N O;refine eY a4 ?_;intro ca ag ak X U G M N O;refine kC (HV.out _ _ _ _ _ _ _ _ Af) ?_;rintro _ cb ⟨⟨⟩,a5⟩;revert au ag ak X U G M N O;refine eY a5 ?_;intro cc au ag ak X U G M N O;refine kR ?_;exact ⟨rfl,X⟩
 have HV:=gp (HV.out _ hok);have HS:=gp (HS.out hok);have HC:=gp (HC.out hok);clear HN hp hw hok h1;rcases Decidable.em (p.flt=0) with h2|h2
 case inr=>
  rw [AQ (gt h2)];have h3:0<p.flt:=Nat.pos_of_ne_zero h2;generalize p.flt=nf at *;generalize p.errs=xs at *;clear HQ h2;refine Ad func46 ntmps46 rfl rfl (cS (eB [_,_,_,_,_,_,_,_,_,_,_,_] ?_));intro ej ek af bv el en;revert X U G M N O;refine eE bv ?_;intro X U G M N O;refine eB [_,_,_,_,_,_] ?_;intro eo ep ac a6 cd ce;revert af X U G M N O;refine eE a6 ?_;intro af X U G M N O;refine eK ?_;refine A3 [_,_,_,_,_,_,_,_,_,_,_,_] Ac rfl rfl rfl af rfl rfl rfl (cC rfl (HE.out _ Af) ?_);rintro _ cf ⟨⟨⟩,a7⟩;revert ac af X U G M N O;refine eY a7 ?_;intro cg ac af X U G M N O;refine kQ (HC.out _ Af Af) ?_;rintro _ ch ⟨ci,cj,⟨⟩,am,a8,ck⟩;revert ac af X U G M N O;refine eY a8 ?_;intro cl ac af X U G M N O;refine kC (HV.out _ _ _ _ _ _ _ _ Af) ?_;rintro _ cm ⟨⟨⟩,a9⟩;revert am ac af X U G M N O;refine eY a9 ?_;intro cn am ac af X U G M N O;refine kQ (HS.out _ Af Af) ?_;rintro _ co ⟨cp,cq,⟨⟩,ba⟩;revert am ac af X U G M N O;refine eY ba ?_;intro cr am ac af X U G M N O;refine kR ?_;exact ⟨rfl,X⟩
 rw [h2] at HS;rw [AB (by simp [h2])];cases hE:p.errs with
 | cons er tl=>
  rw [hE] at HC;clear HQ;refine Ad func46 ntmps46 rfl rfl ?_
  focus
   refine cS (eB [_,_,_,_,_,_,_,_,_,_,_,_] ?_);intro eq et ad bw eu ew;revert X U G M N O;refine eE bw ?_;intro X U G M N O;refine eB [_,_,_,_,_,_] ?_;intro ex ey Z bb ct cu;revert ad X U G M N O;refine eE bb ?_;intro ad X U G M N O;refine eK ?_;refine A3 [_,_,_,_,_,_,_,_,_,_,_,_] Ac rfl rfl rfl ad rfl rfl rfl (cC rfl (HE.out _ Af) ?_);rintro _ cv ⟨⟨⟩,bc⟩;revert Z ad X U G M N O;refine eY bc ?_;intro cw Z ad X U G M N O;refine kQ (HC.out _ Af Af) ?_;rintro _ cx ⟨cy,cz,⟨⟩,ah,bd,be⟩;revert Z ad X U G M N O;refine eY bd ?_;intro c0 Z ad X U G M N O;refine kC (HV.out _ _ _ _ _ _ _ _ Af) ?_;rintro _ c1 ⟨⟨⟩,bf⟩;revert ah Z ad X U G M N O;refine eY bf ?_;intro c2 ah Z ad X U G M N O;refine kQ (HS.out _ Af Af) ?_;rintro _ c3 ⟨c4,c5,⟨⟩,bg⟩;revert ah Z ad X U G M N O;refine eY bg ?_;intro c6 ah Z ad X U G M N O;refine eK ?_;refine Ay rfl (λav=>?_) (λav=>?_);rotate_left;refine eK ?_;rotate_left
  . obtain ⟨g0,c7,bh,-,-,aw⟩:=ah.rows AN;simp only [gR] at bh;obtain ⟨rfl,-,-⟩:=bh;obtain ⟨cs,hr,p0,ez,e0,e1,s0,rfl⟩:=aw 0 er rfl;clear aw ah be Z ad N O HC HS HV HE hE;refine eK ?_;refine C1 (Pw hr) (kR ?_);exact ⟨rfl,X⟩
  . exact absurd AN av
 | nil=>
  rw [hE] at HC;by_cases h3:p.vars=e.g.vars
  . rw [AQ h3];have az:Hid (∀w1,VDs (· < w.heap.size) w1 p.vars ae->VDs (· < w.heap.size) w1 e.g.vars va->Calls prog 82 #[.slice ae p.vars.length al,.slice va e.g.vars.length vc] w1 λe w'=>e = .returned (.bool true)/\Ext w1 w'):=gp λw1 h1 h2=>(HQ.out w1 h1 h2).mono λ_ _ ⟨q,g1,g2,g3⟩=>⟨by rw [g1,g2.2 h3],g3⟩
    clear HQ h3;refine Ad func46 ntmps46 rfl rfl (cS (eB [_,_,_,_,_,_,_,_,_,_,_,_] ?_));intro e2 e3 aa bx e4 e5;revert X U G M N O;refine eE bx ?_;intro X U G M N O;refine eB [_,_,_,_,_,_] ?_;intro e6 e7 V bi c8 c9;revert aa X U G M N O;refine eE bi ?_;intro aa X U G M N O;refine eK ?_;refine A3 [_,_,_,_,_,_,_,_,_,_,_,_] Ac rfl rfl rfl aa rfl rfl rfl (cC rfl (HE.out _ Af) ?_);rintro _ da ⟨⟨⟩,bj⟩;revert V aa X U G M N O;refine eY bj ?_;intro db V aa X U G M N O;refine kQ (HC.out _ Af Af) ?_;rintro _ dc ⟨dd,de,⟨⟩,ai,bk,df⟩;revert V aa X U G M N O;refine eY bk ?_;intro dg V aa X U G M N O;refine kC (HV.out _ _ _ _ _ _ _ _ Af) ?_;rintro _ dh ⟨⟨⟩,bl⟩;revert ai V aa X U G M N O;refine eY bl ?_;intro di ai V aa X U G M N O;refine kQ (HS.out _ Af Af) ?_;rintro _ dk ⟨dl,dm,⟨⟩,bm⟩;revert ai V aa X U G M N O;refine eY bm ?_;intro dn ai V aa X U G M N O;refine kC (az.out _ Af Af) ?_;rintro _ dp ⟨⟨⟩,ax⟩;have dq:=ax.size;revert ai V aa X U G M N O;refine eE ax ?_;intro ai V aa X U G M N O;refine kR ?_;exact ⟨rfl,X⟩
  . rw [AB h3];have az:Hid (∀w1,VDs (· < w.heap.size) w1 p.vars ae->VDs (· < w.heap.size) w1 e.g.vars va->Calls prog 82 #[.slice ae p.vars.length al,.slice va e.g.vars.length vc] w1 λe w'=>e = .returned (.bool false)/\Ext w1 w'):=gp λw1 h1 h2=>(HQ.out w1 h1 h2).mono λ_ _ ⟨q,g1,g2,g3⟩=>⟨by rw [g1];cases q;rfl;exact absurd (g2.1 rfl) h3,g3⟩
    clear HQ h3;refine Ad func46 ntmps46 rfl rfl (cS (eB [_,_,_,_,_,_,_,_,_,_,_,_] ?_));intro e8 e9 ab bz fa fb;revert X U G M N O;refine eE bz ?_;intro X U G M N O;refine eB [_,_,_,_,_,_] ?_;intro fc fd Y bn dr ds;revert ab X U G M N O;refine eE bn ?_;intro ab X U G M N O;refine eK ?_;refine A3 [_,_,_,_,_,_,_,_,_,_,_,_] Ac rfl rfl rfl ab rfl rfl rfl (cC rfl (HE.out _ Af) ?_);rintro _ dt ⟨⟨⟩,bo⟩;revert Y ab X U G M N O;refine eY bo ?_;intro du Y ab X U G M N O;refine kQ (HC.out _ Af Af) ?_;rintro _ dv ⟨dw,dx,⟨⟩,aj,bp,dy⟩;revert Y ab X U G M N O;refine eY bp ?_;intro dz Y ab X U G M N O;refine kC (HV.out _ _ _ _ _ _ _ _ Af) ?_;rintro _ d0 ⟨⟨⟩,bq⟩;revert aj Y ab X U G M N O;refine eY bq ?_;intro d1 aj Y ab X U G M N O;refine kQ (HS.out _ Af Af) ?_;rintro _ d2 ⟨d3,d4,⟨⟩,br⟩;revert aj Y ab X U G M N O;refine eY br ?_;intro d5 aj Y ab X U G M N O;refine kC (az.out _ Af Af) ?_;rintro _ d6 ⟨⟨⟩,ay⟩;have d7:=ay.size;revert aj Y ab X U G M N O;refine eE ay ?_;intro aj Y ab X U G M N O;refine kR ?_;exact ⟨rfl,X⟩
def Vc (e:EX) (f:Nat) (hf:e.fuel=(f:Int)) (b7:f<=10000) (p:PG) (hp:p.wf) (au:p.acc) (s t:SV) (be:FitsP p.vars s) (bo:t.small) (S:nP) (va:oA) (vc:Nat) (pa:oA) (pc:Nat) (ma:oA) (mc:Nat) (av:oA) (a0:Nat) (ah:oA) (bh:Nat) (aw:oA) (bi:Nat)
 (ca ta oa a4 a5 a6:oA) (cc tc oc bp bq br:Nat) (w:wD) (G:p.sits S w av ah aw) (M:PDsC S w p.procs ah) (b9:p.vars.length<=a0) (O:s.sits S w ca ta oa) (U:t.sits S w a4 a5 a6) :
 Calls prog 49 #[.agg (e.cells va vc pa pc ma mc).toArray,.agg (p.cells av a0 ah bh aw bi).toArray,.agg (s.row ca cc ta tc oa oc).toArray,.agg (t.row a4 bp a5 bq a6 br).toArray] w λr w'=>
  ∃q,r = .returned (.tuple #[.bool q,.int .i64 (EU p s f).err])/\(q=true↔(EU p s f).err=0/\(EU p s f).st=t)/\Ext w w':=by
 have X:=iK w;have G:=G.ltA;have M:=M.ltA;have O:=O.ltA;have U:=U.ltA;have HF:Hid (∀w1,p.sits (· < w.heap.size) w1 av ah aw->PDsC (· < w.heap.size) w1 p.procs ah->s.sits (· < w.heap.size) w1 ca ta oa->Calls prog 48 #[.agg (p.cells av a0 ah bh aw bi).toArray,.agg (s.row ca cc ta tc oa oc).toArray,.int .i64 e.fuel] w1 (ResR (EU p s f) w1)):=
  gp λw1 h1 h2 h3=>by rw [hf];exact NQ p hp au.1 au.2.1 s be f b7 _ (ON p s f) _ av a0 ah bh aw bi ca ta oa cc tc oc w1 h1 h2 b9 h3
 have HQ:=gp (λ(u:SV) S1 a1 a2 a3 c1 c2 c3 w1 h0 h1 (h2:t.sits (· < w.heap.size) w1 a4 a5 a6)=>Va u t h0 bo S1 _ a1 a2 a3 a4 a5 a6 c1 c2 c3 bp bq br w1 h1 h2);generalize EU p s f=r at *;clear hp au be hf bo;unfold EX.cells at *;obtain ⟨⟨a7,bs,bj⟩,n,er⟩:=r;obtain ⟨b5,cr,cb⟩:=t;obtain ⟨b6,ct,cd⟩:=s;simp only [SV.mk.injEq] at *;by_cases bt:er=0
 . subst bt;refine Ad func49 ntmps49 rfl rfl (cS (eB [_,_,_,_,_,_,_,_,_,_,_,_] ?_));intro b1 w2 h4 x5 p6 z7;revert X G M U O;refine eE x5 ?_;intro X G M U O;refine eB [_,_,_,_,_,_] ?_;intro b8 w9 Y ce dm dn;revert h4 X G M U O;refine eE ce ?_;intro h4 X G M U O;refine Dl [_,_,_] rfl rfl rfl ?_;intro dp dq a8;have ab:=a8.blk;dsimp only at ab;have cf:=a8.ext;have dr:=a8.pos;have ds:=a8.size;revert Y h4 X G M U O;refine eE cf ?_;intro Y h4 X G M U O;refine Dl [_,_,_] rfl rfl rfl ?_;intro dt du a9;have ac:=a9.blk;dsimp only at ac;have cg:=a9.ext;have dv:=a9.pos;have z28:=a9.size;revert ab Y h4 X G M U O;refine eE cg ?_;intro ab Y h4 X G M U O;refine kQ (HF.out _ Af Af Af) ?_;rintro _ dw ⟨dx,dy,cu,cv,cw,cx,⟨⟩,ai,dz,ch⟩;revert ac ab Y h4 X G M U O;refine eY ch ?_;intro d0 ac ab Y h4 X G M U O;refine xA [_,_,_,_,_] ?_;intro d1 d2 aq;refine Dq [_,_,_,_,_] Ac rfl rfl rfl rfl rfl rfl aq rfl ?_;intro bu aq;have ar:=aq.blk;dsimp only at ar;have ci:=aq.ext;have d3:=aq.pos;have d4:=aq.size;revert ai ac ab Y h4 X G M U O;refine eE ci ?_;intro ai ac ab Y h4 X G M U O;refine eK ?_;refine Aq (λwz=>Ext bu wz) 12 (.pure 0 (.pure 1 (.pure 2 (.pure 3 (.pure 4 (.pure 5 (.pure 6 (.pure 9 (.pure 10 (.fork 7 (.pure 8 (.pure 11 .tail)) .none)))))))))) mixed AT (Aa Ag) ?_;intro cj bv _;have ad:(λwz=>Ext bu wz) cj:=bv;simp only at ad;have aj:=ar;have bk:=ai;have ax:=ac;have bl:=ab;have bm:=Y;have bw:=h4;have ak:=G;have al:=M;have ay:=U;have az:=O;revert ar ai ac ab Y h4 X G M U O;refine eY bv ?_;intro d5 ar ai ac ab Y h4 X G M U O;refine ⟨ad,?_⟩;refine eT ?_;refine eN rfl (xL [_,_,_] (λwz hz=>(iW aj hz))) (eN rfl (xL [_,_,_] (λwz hz=>(iW ax hz))) (Tq rfl Pf (Tq rfl (Db aj) (Lm rfl rfl rfl rfl (Gc CH) (AR AT rfl (HQ.out ⟨a7,bs,bj⟩ _ _ _ _ _ _ _ _ Af Af Af) (λ_ _ ⟨_,h⟩=>⟨_,h.1⟩)) rfl ?_ aFh AD))));rintro _ d6 ⟨d7,⟨⟩,ck,cl⟩;revert ad ar ai ac ab Y h4 X G M U O;refine eY cl ?_;intro d8 ad ar ai ac ab Y h4 X G M U O;refine ⟨ad,?_⟩;refine Tq rfl Vu (Tq rfl Pa ?_);clear aj bk ax bl bm bw ak al ay az ad
   refine At rfl (kT ?_);exact ⟨_,rfl,by rw [ck];simp [SV.mk.injEq],X⟩
 . refine Ad func49 ntmps49 rfl rfl ?_;refine cS (eB [_,_,_,_,_,_,_,_,_,_,_,_] ?_);intro d9 ea Z cm eb ec;revert X G M U O;refine eE cm ?_;intro X G M U O;refine eB [_,_,_,_,_,_] ?_;intro ed ee N bx cy cz;revert Z X G M U O;refine eE bx ?_;intro Z X G M U O;refine Dl [_,_,_] rfl rfl rfl ?_;intro c0 c4 an;have V:=an.blk;dsimp only at V;have bz:=an.ext;have c5:=an.pos;have c6:=an.size;revert N Z X G M U O;refine eE bz ?_;intro N Z X G M U O;refine Dl [_,_,_] rfl rfl rfl ?_;intro c7 c8 ao;have aa:=ao.blk;dsimp only at aa;have b0:=ao.ext;have c9:=ao.pos;have da:=ao.size;revert V N Z X G M U O;refine eE b0 ?_;intro V N Z X G M U O;refine kQ (HF.out _ Af Af Af) ?_;rintro _ db ⟨dc,dd,cn,co,cp,cq,⟨⟩,ag,de,b2⟩;revert aa V N Z X G M U O;refine eY b2 ?_;intro df aa V N Z X G M U O;refine xA [_,_,_,_,_] ?_;intro dg dh ae;refine Dq [_,_,_,_,_] Ac rfl rfl rfl rfl rfl rfl ae rfl ?_;intro bf ae;have ap:=ae.blk;dsimp only at ap;have b3:=ae.ext;have di:=ae.pos;have dk:=ae.size;revert ag aa V N Z X G M U O;refine eE b3 ?_;intro ag aa V N Z X G M U O;refine eK ?_;refine Aq (λwz=>Ext bf wz) 12 (.pure 0 (.pure 1 (.pure 2 (.pure 3 (.pure 4 (.pure 5 (.pure 6 (.pure 7 (.pure 8 (.pure 9 (.pure 10 (.pure 11 .tail)))))))))))) mixed AT (Aa Ag) ?_;intro b4 bg _;have am:(λwz=>Ext bf wz) b4:=bg;simp only at am;have af:=ap;have ba:=ag;have bb:=aa;have bc:=V;have bd:=N;have bn:=Z;have ak:=G;have al:=M;have ay:=U;have az:=O;revert ap ag aa V N Z X G M U O;refine eY bg ?_;intro dl ap ag aa V N Z X G M U O;refine ⟨am,?_⟩;refine Tq rfl Pf (Tq rfl (Db af) (Tq rfl V1 (Tq rfl Mv (DH rfl rfl rfl rfl (DN Af) rfl (DH rfl rfl rfl rfl (DN Af) rfl (DH rfl rfl rfl rfl (DN Af) rfl (DH rfl rfl rfl rfl (DN Af) rfl (Tq rfl O1 (Tq rfl Pf (Tq rfl (Db af) (Tq rfl Pa ?_)))))))))));clear am af ba bb bc bd bn ak al ay az;refine At rfl (kT ?_)
   exact ⟨_,rfl,⟨λh=>(by cases h),λh=>absurd h.1 bt⟩,X⟩
def Xq (r:Int) (h:r<=4000) (w:wD):Calls prog 117 #[.int .i64 r] w λe w'=>e = .returned (.int .i64 (CB r))/\Ext w w':=by
 have X:=iK w;by_cases G:r<0
 . rw [show CB r=0 by unfold CB;rw [AQ G]];refine Ad func117 ntmps117 rfl rfl (kR ?_);exact ⟨rfl,X⟩
 . have M:r.tmod 2=r%2:=Int.tmod_eq_emod_of_nonneg Ab;have N:iG .i64 (r.tdiv 2)=r/2:=by rw [Int.tdiv_eq_ediv_of_nonneg Ab];exact gz _ Ab
   have V:0<=r/2/\r/2<=2000:=by omega
   by_cases O:r%2=1
   . rw [show CB r=r/2+1 by unfold CB;rw [AB G,AQ O]];generalize r/2=q at *;generalize r%2=m at *;refine Ad func117 ntmps117 rfl rfl (eK ?_);refine C1 (La rfl rfl CH M) (eK ?_);refine C1 (Gz rfl rfl CH N) (kR ?_);exact ⟨rfl,X⟩
   . rw [show CB r = -(r/2) by unfold CB;rw [AB G,AB O]];have U:Lp (0-r/2) = -(r/2):=by rw [show (0:Int)-r/2 = -(r/2) by omega];exact gz _ Ab
     generalize r/2=q at *;generalize r%2=m at *;refine Ad func117 ntmps117 rfl rfl (eK ?_);refine C1 (La rfl rfl CH M) (eK ?_);refine C1 (Gz rfl rfl CH N) (C1 (Lq rfl) (kR ?_));rw [U];exact ⟨rfl,X⟩
def It (h:Int) (ls:List (Int×Int)) (m:Nat):List (Int×Int):=(it (ls.length+1)).map λj=>if m<=j then Bu h (ls.drop j) else (0,0)
def GX (h:Int) (G:List (Int×Int)) (m:Nat):(It h G m).length=G.length+1:=by simp [It]
def EK {j:Nat} (M:j<=G.length):(It h G m)[j]? = some (if m<=j then Bu h (G.drop j) else (0,0)):=by
 unfold It;rw [gV,List.getElem?_range Ab];rfl
def Vd (h:Int) (G:List (Int×Int)):It h G G.length=gT (G.length+1) (0,0):=by
 apply List.ext_getElem?;intro j;by_cases M:j<G.length+1
 . rw [EK Ab,List.getElem?_replicate,AQ M];split
   . rw [List.drop_eq_nil_of_le Ab];rfl
   . rfl
 . rw [gG (by rw [GX];omega),gG (by simp;omega)]
def Xr (U:m<G.length):(It h G (m+1)).set m ((Bu h (G.drop (m+1))).1+G[m].1,(Bu h (G.drop (m+1))).2+G[m].2*h)=It h G m:=by
 apply List.ext_getElem?;intro j;by_cases N:j<=G.length
 . by_cases M:m=j
   . subst M;rw [List.getElem?_set_self (by rw [GX];omega),EK N,AQ (gI _),gW U];rfl
   . rw [iF M,EK N,EK N];by_cases O:m<=j
     . rw [AQ O,AQ Ab]
     . rw [AB O,AB Ab]
 . rw [gG (by rw [List.length_set,GX];omega),gG (by rw [GX];omega)]
def OP {h:Int} (M:1<=h/\h<=2001):∀G:List (Int×Int),(∀p∈G,0<=p.1/\p.1<=p.2/\p.2<=1000)->0<=(Bu h G).1/\(Bu h G).1<=1000*G.length/\(Bu h G).1<=(Bu h G).2/\(Bu h G).2<=2001000*G.length
 | [],_=>by simp [Bu]
 | p::G,N=>by
  obtain ⟨V,X,Y,Z⟩:=OP M G (λq O=>N q (List.mem_cons_of_mem _ O));obtain ⟨p1,p2,U⟩:=N p List.mem_cons_self;have m1:p.2*h<=1000*2001:=Int.mul_le_mul U M.2 Ab Ab;have m2:p.2*1<=p.2*h:=Int.mul_le_mul_of_nonneg_left M.1 Ab;simp only [Bu,gD];omega
def Q1 (h:Int) (ls:List (Int×Int)) (F:List (List Int)) (left:Int):List SV:=(Hr h (ls.drop F.length) left).map λs=>Is (F++s)
def Xs (h:Int) (ls:List (Int×Int)) (F:List (List Int)) (xs:List Int) (k:Nat) (left:Int):List SV:=
 (KV h (Bu h (ls.drop (F.length+1))) k left).flatMap λq=>Q1 h ls (F++[xs++q.1]) q.2
def Zx (M:F.length=G.length) (left:Int):Q1 h G F left=[Is F]:=by
 unfold Q1;rw [M,List.drop_length];simp [Hr]
def Xt {left:Int}:Xs h G F xs 0 left=Q1 h G (F++[xs]) left:=by
 simp [Xs,KV]
def eL (h:Int) (ls:List (Int×Int)) (c:Nat) (p:Int×Int) (left:Int):Int:=cU h (Bu h (ls.drop (c+1))) p left
def fE (h:Int) (ls:List (Int×Int)) (c:Nat) (p:Int×Int) (left:Int):Int:=dH (Bu h (ls.drop (c+1))) p left
def Xu {p:Int×Int} (N:G[F.length]? = some p) (left:Int) :
 Q1 h G F left=(it (fE h G F.length p left-eL h G F.length p left+1).toNat).flatMap λ(m:Nat)=>Xs h G F [] (eL h G F.length p left+m).toNat left:=by
 obtain ⟨M,O⟩:=List.getElem?_eq_some_iff.1 N;unfold Q1;rw [gW M,O];simp only [Hr,List.map_flatMap,List.map_map,Xs,Q1,eL,fE,List.nil_append,gO,gD,hH,iu];congr 1;funext m;congr 1;funext q;congr 1;funext s;simp [Function.comp]
def Xv {k:Nat} {left:Int} :
 Xs h G F xs (k+1) left=(it (cQ h (Bu h (G.drop (F.length+1))) k left-R6 h (Bu h (G.drop (F.length+1))) k left+1).toNat).flatMap λ(m:Nat)=>
  Xs h G F (xs++[CB (R6 h (Bu h (G.drop (F.length+1))) k left+m)]) k (left-1-R6 h (Bu h (G.drop (F.length+1))) k left-m):=by
 unfold Xs;simp only [KV,List.flatMap_assoc,List.flatMap_map];congr 1;funext m;congr 1;funext q;simp
def Xw:(WH h G).map Is=(it ((Bu h G).2-(Bu h G).1+1).toNat).flatMap λ(m:Nat)=>Q1 h G [] ((Bu h G).1+m):=by
 simp [WH,Q1,List.map_flatMap]
def Ki {f:Nat->List α} {N:Nat} {out S:List α} (h:out++(it N).flatMap f <+: S) (G:m<N):(out++(it m).flatMap f)++f m <+: S:=by
 refine List.IsPrefix.trans ?_ h;rw [gZ,List.prefix_append_right_inj];have e:(it m).flatMap f++f m=(it (m+1)).flatMap f:=by rw [List.range_succ,List.flatMap_append];simp
 rw [e];obtain ⟨d,rfl⟩:∃d,N=m+1+d:=⟨N-(m+1),Ab⟩;rw [List.range_add (n:=m+1),List.flatMap_append];exact List.prefix_append _ _
def I3 {f:Nat->List α} {out:List α}:(out++(it m).flatMap f)++f m=out++(it (m+1)).flatMap f:=by
 rw [List.range_succ,List.flatMap_append,gZ];simp
def dO {r:Int×Int} {k left:Int} (G:0<=r.1) (M:0<=k) (N:(m:Int)<cQ h r k left-R6 h r k left+1):0<=R6 h r k left+m/\R6 h r k left+m<=h-1/\k+r.1<=left-1-R6 h r k left-m/\left-1-R6 h r k left-m<=left-1:=by
 unfold cQ R6 at *;omega
def Q2 {l:lV} {i:Nat} (h:l[i]? = some b):l.set i b=l:=by
 apply List.ext_getElem?;intro j;by_cases G:i=j
 . subst G;rw [List.getElem?_set_self (List.getElem?_eq_some_iff.1 h).1,h]
 . rw [iF G]
section
variable {P:Program} {n:Nat} {l:Sl} {w:wD} {tab:Tab} {ty:TypeId}
def Xx {h:List lV} {j:Nat} {a:Value} (O:∀cs∈h,cs.length=2) (M:h[j]? = some [a,b]):h.flatten[j*2]? = some a/\h.flatten[j*2+1]? = some b:=by
 have G:=(List.getElem?_eq_some_iff.1 M).1;have U:=(List.getElem?_eq_some_iff.1 M).2;obtain ⟨e,N⟩:=Fq O G;rw [e,U,gZ];constructor
 . rw [gU Ab,N];simp
 . rw [gU Ab,N,show j*2+1-j*2=1 by omega];simp
def K0 {y:Operand} {t C D g j f:Nat} {v:Int} {xs:List (Int×Int)} {p z u:Int×Int} {i:Nat} (T:TabOk P tab) (ht:Az tab t=some (.int .i64,1)) (hx:ev l x=some (.pointer (some ⟨g,0+j*2+f,none⟩))) (hy:ev l y=some (.int .i64 v))
 (hA:ArrS CI C D w g xs) (hj:xs[j]? = some p) (hg:g<C\/D<=g) (hz:(f=0/\z=(v,p.2))\/(f=1/\z=(p.1,v))) (hi:xs[i]? = some u) (hij:j≠i) :
 BD P n l (.store t x y) ty w (FY λw'=>ArrS CI C D w' g (xs.set j z)/\Row w' ⟨g,0+i*2,none⟩ [.int .i64 u.1,.int .i64 u.2]/\Fr (· = g) w w'/\w'.heap.size=w.heap.size):=by
 obtain ⟨css,c1,c2,c3⟩:=hA.ex;have hl:=hA.lens c2 c3;have hjl:=(List.getElem?_eq_some_iff.1 hj).1;have hcj:css[j]? = some [.int .i64 p.1,.int .i64 p.2]:=by
  have h1:css[j]? = some css[j]:=gm Ab;rw [h1,show css[j]=_ from c3 j p _ hj h1]
 obtain ⟨g1,g2⟩:=Xx hl hcj;have hfl:=D9 hl;have hsz:css.flatten.length=css.length*2:=hfl;have hd:=Do (P:=P) (n:=n) (l:=l) (ty:=ty) (us:=[.int .i64 v]) T ht hx hy rfl rfl rfl c1 (by rw [Nat.ble_eq];simp only [gD,hH];omega);unfold BD at hd ⊢;intro a dst pos after gd next Q ha hn b;refine hd a dst pos after gd next Q ha (λv' w' h=>h.elim) (λw' hP=>b w' ?_);have hP':Put w w' g (A8 css.flatten (j*2) [.int .i64 z.1,.int .i64 z.2]):=by
  have e:A8 css.flatten (0+j*2+f) [.int .i64 v]=A8 css.flatten (j*2) [.int .i64 z.1,.int .i64 z.2]:=by
   rcases hz with ⟨rfl,rfl⟩|⟨rfl,rfl⟩
   . simp only [A8,iu,Nat.add_zero];refine (Q2 ?_).symm;rw [iF Ab];exact g2
   . simp only [A8,iu];rw [Q2 g1]
  rw [<-e];exact hP
 have hA2:=S7 c2 c3 hjl hg rfl hP';obtain ⟨cs,r1,r2⟩:=hA2.row (by rw [iF hij];exact hi);obtain rfl:cs=_:=r2;exact ⟨hA2,r1,hP'.fr,hP'.size⟩
end
def dP (L:List (Int×Int)) (w:wD):Ending->wD->Prop:=λe w'=> ∃g,e = .returned (.slice (some ⟨g,0,none⟩) L.length L.length)/\w.heap.size<=g/\g<w'.heap.size/\ArrS CI 0 0 w' g L/\Ext w w'
def Ve (G:List (Int×Int)) (hp:∀p∈G,0<=p.1/\p.1<=p.2/\p.2<=1000) (hn:G.length<=33) (h:Int) (hh:1<=h/\h<=2001) (la:oA) (c:Nat) (w:wD) (hs:Bds w G la) :
 Calls prog 84 #[.slice la G.length c,.int .i64 h] w (dP (It h G 0) w):=by
 have X:=iK w;have HP:=gp hp;replace hs:Arr (λb=>b<w.heap.size) 2 K7 w G la:=by
  rcases hs with h|⟨b,o,h1,M,h3⟩
  . exact gq h
  . cases G with
    | nil=>exact gq rfl
    | cons v r=>exact gt ⟨b,o,h1,Cg (iT (h3 0 v rfl) rfl),h3⟩
 have HX:Hid (∀w2,Ext w w2->Arr (λb=>b<w.heap.size) 2 K7 w2 G la):=gp λw2 x=>hs.mono aFh (λ_ _ _ _ _ h=>iO h x)
 clear hp hs;refine Ad func84 ntmps84 rfl rfl (eK ?_);refine Ax (Dj (sh:=CI) (C:=0) (D:=0) (N:=G.length+1) (z:=((0,0):Int×Int)) Ac Cs rfl rfl rfl rfl AT rfl rfl Ab (λ_ _=>rfl)) rfl ?_ aFh;rintro _ w6 ⟨g1,rfl,M,h3,h4,x5⟩;have z7:=x5.size;have X:=X.ext x5;refine eK ?_;refine C1 (AK rfl rfl (gz _ Ab)) (C1 Pa (cT ?_));refine As ?_;have a3:=M.lt;rw [<-Vd h G] at M;refine AG (ι:=Nat) (λm=>[(0,.slice la G.length c),(1,.int .i64 h),(5,.slice (some ⟨g1,0,none⟩) (G.length+1) (G.length+1)),(6,.int .i64 ((m:Int)-1))])
  (λm w'=>m<=G.length/\ArrS CI 0 0 w' g1 (It h G m)/\Ext w w') (λm=>m) G.length sB ⟨gI _,M,X⟩ ?_
 clear M X z7 h4;rintro m w7 ⟨hm,M,X⟩;cases m with
 | zero=>
  refine kR ?_;exact ⟨g1,by rw [GX];first|done|rfl,Ab,M.lt,M,X⟩
 | succ k=>
  have hk:k<G.length:=by omega
  obtain ⟨kb,ko,rfl,kS,Z⟩:=i9 (HX.out _ X) Ab;have O:=Z k _ (gm hk);obtain ⟨cs,ry,ah⟩:=M.row (EK (m:=k+1) (j:=k+1) Ab);rw [AQ (gI _)] at ah;obtain rfl:cs=_:=ah;have hr:=OP hh (G.drop (k+1)) (λq hq=>HP.out q (List.mem_of_mem_drop hq));have a4:(G.drop (k+1)).length<=33:=by rw [List.length_drop];omega
  have ai:=HP.out _ (gA hk);have ad:=Xr (h:=h) hk;have hz:(It h G (k+1))[k]? = some ((0,0):Int×Int):=by rw [EK Ab,AB Ab]
  have hy:(It h G (k+1))[k+1]? = some (Bu h (G.drop (k+1))):=by rw [EK Ab,AQ (gI _)]
  have au:=GX h G (k+1);clear Z HP HX;generalize Bu h (G.drop (k+1))=r at *;generalize G[k]=p at *;generalize (G.drop (k+1)).length=dl at *;obtain ⟨r1,r2⟩:=r;obtain ⟨p1,p2⟩:=p;simp only at hr ai ad;replace O:Row w7 ⟨kb,ko+k*2,none⟩ [.int .i64 p1,.int .i64 p2]:=O;replace ry:Row w7 ⟨g1,0+(k+1)*2,none⟩ [.int .i64 r1,.int .i64 r2]:=ry;obtain ⟨q,hq⟩:∃q,p2*h=q:=⟨_,rfl⟩
  have a5:0<=q/\q<=2001000:=by
   rw [<-hq];have m1:p2*h<=1000*2001:=Int.mul_le_mul ai.2.2 hh.2 Ab Ab;have m2:0<=p2*h:=Int.mul_nonneg Ab Ab;omega
  have ao:iG .i64 (p2*h)=q:=by rw [hq];exact gz _ Ab
  rw [hq] at ad;generalize It h G (k+1)=W at *;have ap:k<W.length:=by omega
  refine jl (m:=[(0,.slice (some ⟨kb,ko,none⟩) G.length c),(1,.int .i64 h),(5,.slice (some ⟨g1,0,none⟩) (G.length+1) (G.length+1)),(6,.int .i64 (k:Int))]) ?_ (by (refine Am rfl ?_;refine Am rfl ?_;refine Am rfl ?_;refine BL rfl (by go_num) ?_;exact BB));refine eK ?_;refine Aq (λY=>Ext w7 Y) 14 (.pure 0 (.pure 1 (.pure 2 (.pure 3 (.pure 4 (.pure 5 (.pure 6 (.pure 7 (.pure 8 (.pure 9 (.pure 10 (.pure 11 (.pure 12 (.pure 13 .tail)))))))))))))) mixed AT (Aa (Ae (Aa (Aa (Ae (Aa Ag)))))) ?_;intro aq aj _;have aa:(λY=>Ext w7 Y) aq:=aj;simp only at aa;have U:=O;have ak:=ry;have av:=M;revert X O ry M;refine eY aj ?_;intro a6 X O ry M;refine ⟨aa,?_⟩;refine eT ?_;refine Tq rfl (Ap Ac rfl rfl rfl (λY hz=>iT (iO ak hz) rfl)) (eT ?_);refine Tq rfl (Ap Ac rfl rfl rfl (λY hz=>iT (iO U hz) rfl)) (Tq rfl V7 (At rfl (eK ?_)));refine A2 (K0 (j:=k) (i:=k+1) (f:=0) (z:=((r1+p1,0):Int×Int)) Ac rfl rfl rfl Af hz (gt Ab) (gq ⟨rfl,rfl⟩) hy Ab) (BA ?_);rintro _ al ⟨ae,af,am,a7⟩;revert X O;refine eZ am ?_;intro aw X O;clear ry M am;refine cT (Aq (λY=>Ext al Y) 16 (.pure 0 (.pure 1 (.pure 2 (.pure 3 (.pure 4 (.pure 5 (.pure 6 (.pure 7 (.pure 8 (.pure 9 (.pure 10 (.pure 11 (.pure 12 (.pure 13 (.pure 14 (.pure 15 .tail)))))))))))))))) mixed AT (Ae (Aa (Aa (Ae (Aa Ag))))) ?_)
  intro an ab _;have V:(λY=>Ext al Y) an:=ab;simp only at V;have ar:=ae;have ag:=af;have U:=O;revert ae af X O;refine eY ab ?_;intro ax ae af X O;refine ⟨V,?_⟩;refine eT ?_;refine Tq rfl (Dr ag) (eT ?_);refine Tq rfl (Dr U) (Tq rfl Mv (Tq rfl (Ib rfl rfl ao) (Tq rfl V7 (At rfl (eK ?_)))));refine A2 (K0 (j:=k) (i:=k+1) (f:=1) (z:=((r1+p1,r2+q):Int×Int)) Ac rfl rfl rfl Af (List.getElem?_set_self ap) (gt Ab) (gt ⟨rfl,rfl⟩) (by rw [iF Ab];exact hy) Ab) ?_;refine BA ?_;rintro _ ay ⟨az,a0,ac,a1⟩;have a2:=ac.size;revert X O;refine eF ac ?_;intro X O;refine eK ?_;refine C1 (AK rfl rfl (gz _ Ab)) (C1 Pa (Ak ?_));exact Aw k sB ⟨Ab,by rw [<-ad,show W.set k (r1+p1,r2+q)=(W.set k (r1+p1,0)).set k (r1+p1,r2+q) from (List.set_set ..).symm];assumption,X⟩ Ab
def Hv:Shape Value where
 sz:=1
 rep _ _ v cs:=cs=[v]/\Value.one v=true
 len h:=by rw [h.1];rfl
 one h:=by rw [h.1];simp [h.2]
 mono h _ _:=h
 lt h:=h
structure DCx where
 y:Nat
 c:Nat
 bY:Nat
 bL:Nat
 bR:Nat
 bH:Nat
 bS:Nat
 bI:Nat
 bN:Nat
 g:Nat
 gr:Nat
 lc:Nat
 la:oA
 h:Int
 ls:List (Int×Int)
 Rt:nP
section
variable {x:DCx} {A T:nP} {W W':wD} {F:List (List Int)}
abbrev Xy (b:Nat):Value:=.pointer (some ⟨b,0,none⟩)
abbrev DCx.capI (x:DCx):lV:=[Xy x.bS,Xy x.bY,Xy x.bL,Xy x.bR,Xy x.bH,Xy x.bN]
abbrev DCx.capN (x:DCx):lV:=[Xy x.bS,Xy x.bI,Xy x.bH,Xy x.bR,Xy x.bN]
def DCx.fix (x:DCx) (k:Nat):Prop:=x.Rt k\/k=x.bY\/k=x.bL\/k=x.bR\/k=x.bH\/k=x.bS\/k=x.bI\/k=x.bN\/k=x.gr
structure DCx.K (x:DCx) (W:wD):Prop where
 y0:Blk W x.bY [.func (.yield x.y) #[] #[]]
 l0:Blk W x.bL [.slice x.la x.ls.length x.lc]
 r0:Blk W x.bR [.slice (some ⟨x.gr,0,none⟩) (x.ls.length+1) (x.ls.length+1)]
 h0:Blk W x.bH [.int .i64 x.h]
 s0:Blk W x.bS [.slice (some ⟨x.g,0,none⟩) x.ls.length x.ls.length]
 i0:Blk W x.bI [.func (.func 115) #[] x.capI.toArray]
 n0:Blk W x.bN [.func (.func 116) #[] x.capN.toArray]
 ld:Arr x.Rt 2 K7 W x.ls x.la
 rs:ArrS CI 0 0 W x.gr (It x.h x.ls 0)
def DCx.K.fr (h:x.K W) (f:Fr T W W') (G:∀k,x.fix k -> ¬T k):x.K W':=by
 obtain ⟨M,N,O,U,V,X,Y,Z,h9⟩:=h;unfold DCx.fix at G;exact ⟨M.fr f (G _ AN),N.fr f (G _ AN),O.fr f (G _ AN),U.fr f (G _ AN),V.fr f (G _ AN),X.fr f (G _ AN),Y.fr f (G _ AN),
  Z.mono aFh (λb _ _ _ hb h=>i8 h f (G b (gq hb))),h9.fr f (λk hk=>⟨Ab,λe=>G k (by simp [e]) hk⟩)⟩
instance  : LfF T W W' (x.K W) (∀k,x.fix k -> ¬T k) (x.K W'):=⟨λx s h=>Bk.DCx.K.fr h x s⟩
def DCx.L (x:DCx) (A:nP) (W:wD) (F:List (List Int)):Prop:= ∃(bl:Nat->Nat) (cs:lV),ArrS Hv 0 0 W x.g cs/\cs.length=x.ls.length /\
 (∀i xs,F[i]? = some xs->cs[i]? = some (.slice (some ⟨bl i,0,none⟩) xs.length xs.length)/\ArrS CY 0 0 W (bl i) xs/\A (bl i) /\ ¬x.fix (bl i)/\bl i≠x.g) /\
 ∀i j,i<F.length->j<F.length->bl i=bl j->i=j
def DCx.L.fr (h:x.L A W F) (f:Fr T W W') (O:A x.g) (M:∀k,A k -> ¬T k):x.L A W' F:=by
 obtain ⟨U,cs,V,X,Y,Z⟩:=h;refine ⟨U,cs,V.fr f (λk G=>⟨Ab,λe=>M k (e▸O) G⟩),X,λi xs hi=>?_,Z⟩;obtain ⟨g1,g2,N,g4⟩:=Y i xs hi;exact ⟨g1,g2.fr f (λk G=>⟨Ab,λe=>M k (e▸N) G⟩),N,g4⟩
def DCx.L.more {N:nP} (h:x.L A W F) (O:∀k,A k->N k):x.L N W F:=by
 obtain ⟨U,cs,V,X,G,Y⟩:=h;exact ⟨U,cs,V,X,λi xs M=>⟨(G i xs M).1,(G i xs M).2.1,O _ (G i xs M).2.2.1,(G i xs M).2.2.2⟩,Y⟩
def DCx.L.less {z:List Int} (h:x.L A W (F++[z])):x.L A W F:=by
 obtain ⟨M,cs,N,O,U,V⟩:=h;refine ⟨M,cs,N,O,λi xs G=>U i xs ?_,λi j G X=>V i j (by simp;omega) (by simp;omega)⟩;rw [gJ (List.getElem?_eq_some_iff.1 G).1];exact G
structure DCx.D (x:DCx) (J:(nP)->List SV->wD->Prop) (A:nP) (out:List SV) (W:wD) (F:List (List Int)):Prop where
 k:x.K W
 l:x.L A W F
 j:J A out W
 lt:∀k,A k->x.c<=k/\k<W.heap.size
 own:∀k,x.fix k->x.Rt k\/A k
 ag:A x.g
 sz:x.c<=W.heap.size
structure DCx.Ok (x:DCx):Prop where
 rt:∀k,x.Rt k->k<x.c
 h:1<=x.h/\x.h<=2001
 ls:∀p∈x.ls,0<=p.1/\p.1<=p.2/\p.2<=1000
 n:1<=x.ls.length/\x.ls.length<=33
 g:¬x.fix x.g
def DCx.grow (A:nP) (W W':wD):nP:=λk=>A k\/(W.heap.size<=k/\k<W'.heap.size)
def DCx.grow_j {out:List SV} {c:Nat} (N:Et c J) (O:J A out W) (M:∀k,A k->c<=k/\k<W.heap.size) (U:c<=W.heap.size) (f:Fr A W W'):J (DCx.grow A W W') out W':=
 N A _ out W W' O f (λk G=>(M k G).1) (λk G=>G.elim (λh=>(M k h).1) (λh=>by omega)) (λk G h=>h.elim id (λh=>by omega))
def DCx.D.grow {J:(nP)->List SV->wD->Prop} {out:List SV} {G:List (List Int)} (N:Et x.c J) (h:x.D J A out W F) (f:Fr A W W') (M:x.K W') (O:x.L (DCx.grow A W W') W' G):x.D J (DCx.grow A W W') out W' G:=
 ⟨M,O,DCx.grow_j N h.j h.lt h.sz f,λk M=>M.elim (λe=>⟨(h.lt k e).1,by have:=(h.lt k e).2;have:=f.size;omega⟩) (λe=>⟨by have:=h.sz;omega,e.2⟩),λk M=>(h.own k M).imp id gq,gq h.ag,by have:=h.sz;have:=f.size;omega⟩
def DCx.End (x:DCx) (J Jx:(nP)->List SV->wD->Prop) (S:List SV) (A:nP) (out:List SV) (G:List (List Int)->Prop):Ending->wD->Prop:=λe W'=>
 ∃q A',e = .returned (.bool q)/\(∀k,A k->A' k)/\((q=true /\ ∃F,G F/\x.D J A' out W' F)\/(q=false/\(∀k,A' k->x.c<=k) /\ ∃pre,pre <+: S/\Jx A' pre W'))
def DCx.End.ret {Jx:(nP)->List SV->wD->Prop} {out:List SV} {G:List (List Int)->Prop} (h:x.End J Jx S A out G e W'):∃v,e = .returned v:=by
 obtain ⟨_,_,h,-⟩:=h;exact ⟨_,h⟩
def DCx.end_nl {Jx:(nP)->List SV->wD->Prop} {out:List SV} {G:List (List Int)->Prop} (w:wD):¬x.End J Jx S A out G .outgrown w:=λ⟨_,_,h,_⟩=>by cases h
end
def OQ (b0:Nat) (W:wD) (vs:lV) (s:SV):Prop:= ∃a c ta tc oa oc,vs=[.agg (s.row a c ta tc oa oc).toArray]/\s.sits (λb=>b0<=b) W a ta oa
def SRes (Rt:nP) (J Jx:(nP)->List SV->wD->Prop) (A:nP) (xs:List SV) (W:wD):Ending->wD->Prop:=λe W'=>
 Keeps (λk=>A k\/Rt k) W W'/\((e = .returned (.bool true)/\J A xs W')\/(e = .returned (.bool false)/\Jx A xs W'))
def SRes.ret {G:nP} {Jx:(nP)->List SV->wD->Prop} {xs:List SV} (h:SRes G J Jx A xs W e w):∃v,e = .returned v:=by
 obtain ⟨-,⟨h,-⟩|⟨h,-⟩⟩:=h<;>exact ⟨_,h⟩
def DCx.L.sits {x:DCx} {A:nP} {W:wD} {F:List (List Int)} (h:x.L A W F) (U:F.length=x.ls.length) (hn:1<=x.ls.length) (V:A x.g):∃b,(∃cs,ArrS Hv 0 0 W x.g cs/\cs[x.ls.length-1]? = some (.slice (some ⟨b,0,none⟩) (F.getLastD []).length (F.getLastD []).length)) /\
 (Is F).sits A W (some ⟨x.g,0,none⟩) (some ⟨b,0,none⟩) none:=by
 obtain ⟨bl,cs,N,h2,O,-⟩:=h;have X:F[x.ls.length-1]? = some (F.getLastD []):=by
  rw [List.getLastD_eq_getLast?,List.getLast?_eq_getElem?,U,gm Ab];rfl
 obtain ⟨Y,Z,g3,-,-⟩:=O _ _ X;refine ⟨_,⟨cs,N,Y⟩,gt ⟨x.g,0,rfl,V,λi xs G=>?_⟩,gt ⟨_,0,rfl,g3,Z.blkI.row⟩,gq rfl⟩;have M:F[i]? = some xs:=by
  have:(Is F).cells=F.dropLast:=rfl;rw [this] at G;rw [List.getElem?_dropLast] at G;split at G
  . exact G
  . cases G
 obtain ⟨k1,k2,k3,-,-⟩:=O i xs M;obtain ⟨us,hr,hu,-⟩:=N.row k1;subst hu;exact ⟨_,_,hr,gt ⟨_,0,rfl,k3,k2.blkI.row⟩⟩
def SV.row_of {a ta oa:oA} {c h G k:Nat} (M:s.cells.length=n) (N:s.tin.length=m) (O:s.tout.length=k):s.row a c ta h oa G=[.slice a n c,.slice ta m h,.slice oa k G]:=by subst M N O;rfl
set_option maxHeartbeats 8000000 in
def Xz (x:DCx) (hx:x.Ok) (J Jx:(nP)->List SV->wD->Prop) (hJ:Et x.c J) (S:List SV)
 (hY:∀A pre s vs W1,(∀k,A k->x.c<=k/\k<W1.heap.size)->J A pre W1->OQ x.c W1 vs s->(pre++[s]) <+: S->YieldAt (WF none) 0 prog x.y vs.toArray W1 (SRes x.Rt J Jx A (pre++[s]) W1))
 (F:List (List Int)) (A:nP) (out:List SV) (W:wD) (left:Int) (hc:F.length=x.ls.length) (af:∀xs∈F,xs.length<=1000) (M:x.D J A out W F) (Z:(out++[Is F]) <+: S) :
 Calls prog 115 #[.int .i64 F.length,.int .i64 left,.pointer (some ⟨x.bS,0,none⟩),.pointer (some ⟨x.bY,0,none⟩),.pointer (some ⟨x.bL,0,none⟩),.pointer (some ⟨x.bR,0,none⟩),.pointer (some ⟨x.bH,0,none⟩),.pointer (some ⟨x.bN,0,none⟩)] W
  (x.End J Jx S A (out++[Is F]) (λG=>G=F)):=by
 obtain ⟨d,hd⟩:∃d,x.ls.length=d+1:=⟨x.ls.length-1,by have:=hx.n.1;omega⟩
 have aw:d<=32:=by have:=hx.n.2;omega
 obtain ⟨b,⟨cs,aa,ab⟩,ac⟩:=M.l.sits hc hx.n.1 M.ag;obtain ⟨us,hr,hu,-⟩:=aa.row ab;subst hu;rw [hd] at hr;have ao:Row W ⟨x.g,0+d*1,none⟩ [.slice (some ⟨b,0,none⟩) (F.getLastD []).length (F.getLastD []).length]:=hr;clear aa ab hr;have ap:((d+1:Nat):Int)-1=(d:Int):=by omega
 have ad:iG .i64 (((d+1:Nat):Int)-1)=(d:Int):=by rw [ap];exact gz _ Ab
 have y0:=M.k.y0;have s0:=M.k.s0;rw [hd] at s0;have e1:(Is F).cells.length=d:=by show F.dropLast.length=d;rw [List.length_dropLast];omega
 have e2:(Is F).tin.length=(F.getLastD []).length:=rfl;have e3:(Is F).tout.length=0:=rfl;have ax:(F.getLastD []).length<=1000:=by
  rw [List.getLastD_eq_getLast?];cases hF:F.getLast? with
  | none=>simp
  | some v=>exact af v (List.mem_of_getLast? hF)
 have HC:=gp (λw1 (h:(Is F).sits (λk=>k<W.heap.size) w1 (some ⟨x.g,0,none⟩) (some ⟨b,0,none⟩) none)=>
  J6 (Is F) _ _ _ none (d+1) (F.getLastD []).length 0 w1 Ab (λxs hx=>by have:=af xs (List.dropLast_subset _ hx);omega) Ab Ab h)
 have U:=ac.wide (S':=λk=>k<W.heap.size) (λk N=>(M.lt k N).2);have ak:=gp hY;have HD:=gp M;rw [SV.row_of e1 e2 e3] at HC;rw [hc,hd];generalize (F.getLastD []).length=ll at *;clear hY M ac e2 e3 af hd;have X:=iK W;refine Ad func115 ntmps115 rfl rfl (eK ?_);refine Aq (λwz=>Ext W wz) 10 (.pure 0 (.pure 1 (.pure 2 (.pure 3 (.pure 4 (.pure 5 (.pure 6 (.pure 7 (.pure 8 (.pure 9 .tail)))))))))) mixed AT (Aa (Aa Ag)) ?_;intro w1 x2 _;have al:(λwz=>Ext W wz) w1:=x2;simp only at al;have ae:=s0;have ah:=ao;revert y0 U X;refine eY x2 ?_;intro z4 y0 U X;refine ⟨al,?_⟩;refine Tq rfl (Db ae) (Tq rfl Mv (Tq rfl (AK (c:=(d:Int)) rfl rfl ad) (Tq rfl (Dn (m:=d) Ac rfl rfl rfl rfl rfl Ab) (Tq rfl (Db ae) (Tq rfl Mv (Tq rfl (AK (c:=(d:Int)) rfl rfl ad) (Tq rfl Pi (Tq rfl (Ap Ac rfl rfl rfl (λwz hz=>iT (iO ah hz) rfl)) (Tq rfl Pa (At rfl (C1 Pa (cT (Aj (PR (λwz=>Ext w1 wz) 5 (.pure 0 (.pure 1 (.pure 2 (.pure 3 (.fork 4 .tail .none))))) mixed AT (Aa (Aa Ag)) (Bt (Bt (Jo DCx.end_nl))) ?_))))))))))))));intro w3 x3 _;refine ⟨x3,?_⟩;refine GM rfl (Ap Ac rfl rfl rfl (λwz hz=>iV (iW y0 hz) rfl)) rfl (GM rfl (Ar rfl) rfl (GM rfl (Ar rfl) rfl (GM rfl (DR [.slice (some ⟨x.g,0,none⟩) d (d+1),.slice (some ⟨b,0,none⟩) ll ll,.slice none 0 0] Ac Cs rfl rfl rfl rfl) rfl (Oq rfl rfl (AR AT rfl (HC.out _ (U.ext x3)) (λ_ _ h=>h.ret)) rfl ?_ aFh Oo))));rintro _ w4 ⟨ca,cc,ta,tc,oa,oc,⟨⟩,am,x4⟩;have ai:=Ext.trans x3 x4;refine ⟨ai,?_⟩;refine Td rfl ?_;have X4:=X.trans ai;have au:=X4.size;have M:=HD.out
 have V:∀k,DCx.grow A W w4 k->x.c<=k/\k<w4.heap.size:=λk N=>N.elim (λh=>⟨(M.lt k h).1,by have:=(M.lt k h).2;omega⟩) (λh=>⟨by have:=M.sz;omega,h.2⟩)
 have J4:=DCx.grow_j hJ M.j M.lt M.sz (iM X4);have O:∀k,A k->DCx.grow A W w4 k:=λk h=>gq h
 have av:=M.sz;refine LO rfl rfl (ak.out _ out (Is F) [_] w4 V J4 ⟨ca,cc,ta,tc,oa,oc,rfl,SV.sits.wide am (λb hb=>by have:=x3.size;have:=X.size;omega)⟩ Z) (λ_ _ h=>h.ret) rfl ?_;rintro v w6 ⟨Y,aq⟩;refine Wf (Bt (Bt (Jo DCx.end_nl))) rfl ?_;have hT:∀k,x.fix k -> ¬ ¬(DCx.grow A W w4 k\/x.Rt k):=λk N e=>e ((M.own k N).elim gt (λh=>gq (gq h)))
 have K6:=(M.k.fr (T:=λ_=>False) (iM X4) (λ_ _ h=>h)).fr Y hT;have L6:=((M.l.fr (T:=λ_=>False) (iM X4) M.ag (λ_ _ h=>h)).fr Y M.ag (λk N e=>e (gq (gq N)))).more O;have ay:=Y.size;have an:=M.own;have ar:=M.ag;clear y0 U X X4 x3 x4 ai HC ak HD J4 Y am hT M;rcases aq with ⟨⟨⟩,aj⟩|⟨⟨⟩,aj⟩
 . refine kR ?_;exact ⟨true,_,rfl,O,gq ⟨rfl,F,rfl,K6,L6,aj,λk N=>⟨(V k N).1,by have:=(V k N).2;omega⟩,λk N=>(an k N).imp id (O k),O _ ar,Ab⟩⟩
 . refine kR ?_;exact ⟨false,_,rfl,O,gt ⟨rfl,λk N=>(V k N).1,_,Z,aj⟩⟩
abbrev DCx.argL (x:DCx) (c:Nat) (left:Int):lV:=[.int .i64 c,.int .i64 left,.pointer (some ⟨x.bS,0,none⟩),.pointer (some ⟨x.bY,0,none⟩),.pointer (some ⟨x.bL,0,none⟩),.pointer (some ⟨x.bR,0,none⟩),.pointer (some ⟨x.bH,0,none⟩),.pointer (some ⟨x.bN,0,none⟩)]
abbrev DCx.argN (x:DCx) (c i:Nat) (left:Int):lV:=[.int .i64 c,.int .i64 i,.int .i64 left,.pointer (some ⟨x.bS,0,none⟩),.pointer (some ⟨x.bI,0,none⟩),.pointer (some ⟨x.bH,0,none⟩),.pointer (some ⟨x.bR,0,none⟩),.pointer (some ⟨x.bN,0,none⟩)]
def DCx.CL (x:DCx) (J Jx:(nP)->List SV->wD->Prop) (S:List SV) (N:Nat):Prop:=
 ∀(F:List (List Int)) (A:nP) (out:List SV) (W:wD) (left:Int),(x.ls.length-F.length)*1002<N->F.length<=x.ls.length->(∀xs∈F,xs.length<=1000)->0<=left->left<=70000000->x.D J A out W F->(out++Q1 x.h x.ls F left) <+: S ->
  Calls prog 115 (x.argL F.length left).toArray W (x.End J Jx S A (out++Q1 x.h x.ls F left) (λG=>G=F))
def DCx.CN (x:DCx) (J Jx:(nP)->List SV->wD->Prop) (S:List SV) (N:Nat):Prop:=
 ∀(F:List (List Int)) (zs:List Int) (i:Nat) (A:nP) (out:List SV) (W:wD) (left:Int),(x.ls.length-F.length)*1002-1-i<N->F.length<x.ls.length->(∀xs∈F,xs.length<=1000)->zs.length<=1000->i<=zs.length->0<=left->left<=70000000->x.D J A out W (F++[zs]) ->
  (out++Xs x.h x.ls F (zs.take i) (zs.length-i) left) <+: S ->
  Calls prog 116 (x.argN F.length i left).toArray W (x.End J Jx S A (out++Xs x.h x.ls F (zs.take i) (zs.length-i) left) (λG=> ∃ys,G=F++[ys]/\ys.length=zs.length/\ys.take i=zs.take i))
section
variable {x:DCx} {J Jx:(nP)->List SV->wD->Prop} {S:List SV}
def DCx.Ok.rest (G:x.Ok) (c:Nat):0<=(Bu x.h (x.ls.drop c)).1/\(Bu x.h (x.ls.drop c)).1<=33000/\(Bu x.h (x.ls.drop c)).2<=66033000/\(Bu x.h (x.ls.drop c)).1<=(Bu x.h (x.ls.drop c)).2:=by
 have N:=OP G.h (x.ls.drop c) (λp M=>G.ls p (List.mem_of_mem_drop M));have O:(x.ls.drop c).length<=33:=by rw [List.length_drop];have:=G.n.2;omega
 omega
def DCx.K.rowR (h:x.K W) {c:Nat} (M:c<=x.ls.length):Row W ⟨x.gr,0+c*2,none⟩ [.int .i64 (Bu x.h (x.ls.drop c)).1,.int .i64 (Bu x.h (x.ls.drop c)).2]:=by
 obtain ⟨cs,N,G⟩:=h.rs.row (EK (m:=0) (j:=c) M);rw [AQ (gC _)] at G;obtain rfl:cs=_:=G;exact N
def DCx.L.at {A:nP} {W:wD} {F:List (List Int)} {zs:List Int} (h:x.L A W (F++[zs])):∃b,Row W ⟨x.g,0+F.length*1,none⟩ [.slice (some ⟨b,0,none⟩) zs.length zs.length]/\ArrS CY 0 0 W b zs/\A b /\ ¬x.fix b/\b≠x.g /\
 ∀(W':wD) (ys:List Int),Fr (· = b) W W'->ArrS CY 0 0 W' b ys->ys.length=zs.length->x.L A W' (F++[ys]):=by
 obtain ⟨U,cs,V,h2,X,Y⟩:=h;obtain ⟨Z,g2,g3,g4,N⟩:=X F.length zs AN;obtain ⟨us,hr,hu,-⟩:=V.row Z;subst hu;refine ⟨U F.length,hr,g2,g3,g4,N,λW' ys f hy hl=>⟨U,cs,V.fr f (λk O=>⟨Ab,λe=>N (O.symm.trans e)⟩),h2,λi xs G=>?_,λi j G hj=>Y i j (by simpa using G) (by simpa using hj)⟩⟩;by_cases M:i<F.length
 . rw [gJ M] at G;obtain ⟨k1,k2,k3,k4,k5⟩:=X i xs (by rw [gJ M];exact G);refine ⟨k1,k2.fr f (λk O=>⟨Ab,λe=>?_⟩),k3,k4,k5⟩;have:=Y i F.length (by simp;omega) AN (e.symm.trans O);omega
 . obtain rfl:i=F.length:=by
    have:=(List.getElem?_eq_some_iff.1 G).1;simp at this;omega
   simp only [List.getElem?_concat_length,gy] at G;subst G;exact ⟨by rw [hl];exact Z,hy,g3,g4,N⟩
def DCx.L.snoc {N:nP} {zs:List Int} {b:Nat} {h:Nat->Nat} {cs:lV} (Y:cs.length=x.ls.length)
 (V:∀i xs,F[i]? = some xs->cs[i]? = some (.slice (some ⟨h i,0,none⟩) xs.length xs.length)/\ArrS CY 0 0 W (h i) xs/\A (h i) /\ ¬x.fix (h i)/\h i≠x.g)
 (Z:∀i j,i<F.length->j<F.length->h i=h j->i=j) (hF:F.length<x.ls.length) (f:Fr (· = x.g) W w) (O:∀k,A k->N k) (hb:N b /\ ¬x.fix b/\b≠x.g) (hn:¬A b) (hz:ArrS CY 0 0 w b zs)
 (hs:ArrS Hv 0 0 w x.g (cs.set F.length (.slice (some ⟨b,0,none⟩) zs.length zs.length))):x.L N w (F++[zs]):=by
 have M:∀i,i<F.length->h i≠b:=λi G e=>hn (e▸(V i _ (gm G)).2.2.1)
 refine ⟨λi=>if i=F.length then b else h i,_,hs,by simp [Y],λi xs G=>?_,λi j G hj=>?_⟩
 . by_cases U:i<F.length
   . rw [gJ U] at G;obtain ⟨k1,k2,k3,k4,X⟩:=V i xs G;simp only [AB (show i≠F.length by omega)];rw [iF Ab];exact ⟨k1,k2.fr f (λk hk=>⟨Ab,λe=>X (e.symm.trans hk)⟩),O _ k3,k4,X⟩
   . obtain rfl:i=F.length:=by
      have:=(List.getElem?_eq_some_iff.1 G).1;simp at this;omega
     simp only [List.getElem?_concat_length,gy] at G;subst G;simp only [if_true];rw [List.getElem?_set_self Ab];exact ⟨rfl,hz,hb⟩
 . simp only [gO,gD,hH] at G hj;dsimp only;split<;>split
   . omega
   . intro e;exact absurd e.symm (M j Ab)
   . intro e;exact absurd e (M i Ab)
   . exact Z i j Ab Ab
def DCx.D.ext {out:List SV} (G:Et x.c J) (h:x.D J A out W F) (X:Ext W w):x.D J (DCx.grow A W w) out w F:=
 h.grow G (iM X) (h.k.fr (T:=λ_=>False) (iM X) (λ_ _ h=>h)) ((h.l.fr (T:=λ_=>False) (iM X) h.ag (λ_ _ h=>h)).more (λ_ h=>gq h))
end
set_option maxHeartbeats 8000000 in
def Zy (x:DCx) (hx:x.Ok) (J Jx:(nP)->List SV->wD->Prop) (hJ:Et x.c J) (S:List SV) (N:Nat) (HL:x.CL J Jx S N) (HN:x.CN J Jx S N):x.CN J Jx S (N+1):=by
 intro F zs i A out W left hm hF ao bc hi h0 h1 M O;obtain ⟨b,hr,Y,hb,ag,ap,Z⟩:=M.l.at;have s0:=M.k.s0;have aq:(F++[zs]).length=F.length+1:=by simp
 by_cases hk:i=zs.length
 . subst hk;have i0:=M.k.i0;rw [Nat.sub_self,gF,Xt] at O ⊢;have HX:=gp (HL (F++[zs]) A out W left (by rw [aq];omega) (by rw [aq];omega) (λxs bd=>by
    rcases List.mem_append.1 bd with h|h
    . exact ao xs h
    . rw [ia.1 h];exact bc) h0 h1 M O)
   rw [aq] at HX;have hn:=hx.n;clear M O Z ag hb ap HL HN hJ ao Y;refine Ad func116 ntmps116 rfl rfl (eK ?_);refine Ax (A9 (fi:=[]) (ca:=x.capI) AT rfl rfl HX.out (λ_ _ h=>h.ret)) rfl ?_ aFh;rintro _ w5 ⟨q1,bw,⟨⟩,h3,h4⟩;refine kR ?_;exact ⟨_,_,rfl,h3,h4.imp (λ⟨e,F',e2,hd⟩=>⟨e,F',⟨zs,e2,rfl,by rw [gF]⟩,hd⟩) id⟩
 . obtain ⟨k,be⟩:∃k,zs.length-i=k+1:=⟨zs.length-i-1,Ab⟩
   have ek:(zs.length:Int)-1-i=k:=by omega
   rw [be] at O ⊢;rw [Xv] at O ⊢;have ae:=M.k.h0;have r0:=M.k.r0;have ry:=M.k.rowR (c:=F.length+1) Ab;obtain ⟨r1,r2,r3,r4⟩:=hx.rest (F.length+1);have hh:=hx.h;have hn:=hx.n;have ar:=gp (λ(m:Nat)=>dO (h:=x.h) (r:=Bu x.h (x.ls.drop (F.length+1))) (k:=k) (left:=left) (m:=m) r1 Ab);obtain ⟨q,hq⟩:∃q,(k:Int)*x.h=q:=⟨_,rfl⟩
   have bf:0<=q/\q<=2001000:=by
    rw [<-hq];have m1:(k:Int)*x.h<=1000*2001:=Int.mul_le_mul Ab hh.2 Ab Ab;have m2:0<=(k:Int)*x.h:=Int.mul_nonneg Ab Ab;omega
   have ay:iG .i64 (((zs.length:Int)-1-i)*x.h)=q:=by rw [ek,hq];exact gz _ Ab
   have az:R6 x.h (Bu x.h (x.ls.drop (F.length+1))) k left=max 0 (left-1-q-(Bu x.h (x.ls.drop (F.length+1))).2):=by unfold R6;rw [hq]
   have a0:cQ x.h (Bu x.h (x.ls.drop (F.length+1))) k left=min (x.h-1) (left-1-k-(Bu x.h (x.ls.drop (F.length+1))).1):=rfl;have HP:=gp O;have HD:=gp M;generalize R6 x.h (Bu x.h (x.ls.drop (F.length+1))) k left=V at *;generalize cQ x.h (Bu x.h (x.ls.drop (F.length+1))) k left=hi at *;generalize Bu x.h (x.ls.drop (F.length+1))=r at *;obtain ⟨ra,rb⟩:=r;simp only at r1 r2 r3 r4 az a0 ry;have au:=gp HN;clear O M Z ag hb ap HL HN Y hq;have X:=iK W;refine Ad func116 ntmps116 rfl rfl (eK ?_);refine C1 (AK rfl rfl (gz _ Ab)) (C1 Mv (C1 (AK rfl rfl (gz _ Ab)) (eK ?_)));refine Aq (λwz=>Ext W wz) 12 (.pure 0 (.pure 1 (.pure 2 (.pure 3 (.pure 4 (.pure 5 (.pure 6 (.pure 7 (.pure 8 (.pure 9 (.pure 10 (.pure 11 .tail)))))))))))) mixed AT (Aa Ag) ?_;intro av a1 _;have ah:(λwz=>Ext W wz) av:=a1;simp only at ah;have aa:=hr;have af:=s0;have U:=ae;have ai:=r0;have ab:=ry;revert hr s0 ae r0 ry X;refine eY a1 ?_;intro bx hr s0 ae r0 ry X;refine ⟨ah,?_⟩;refine Tq rfl Mv (Tq rfl (AK rfl rfl (gz _ Ab)) (Tq rfl Mv (Tq rfl (Ap Ac rfl rfl rfl (λwz Y=>iV (iW U Y) rfl)) (Tq rfl (Ib rfl rfl ay) (Tq rfl (AK rfl rfl (gz _ Ab)) (eT ?_))))));refine Tq rfl (Dr ab) ?_;clear ah aa af U ai ab;refine At rfl (C1 (AK rfl rfl (gz _ Ab)) (C1 (SQ (m:=V) rfl rfl Ab) (eK ?_)));refine Aq (λwz=>Ext av wz) 13 (.pure 0 (.pure 1 (.pure 2 (.pure 3 (.pure 4 (.pure 5 (.pure 6 (.pure 7 (.pure 8 (.pure 9 (.pure 10 (.pure 11 (.pure 12 .tail))))))))))))) mixed AT (Aa Ag) ?_;intro bg a2 _;have aj:(λwz=>Ext av wz) bg:=a2;simp only at aj;have aa:=hr;have af:=s0;have U:=ae
   have ai:=r0;have ab:=ry;revert hr s0 ae r0 ry X;refine eY a2 ?_;intro bz hr s0 ae r0 ry X;refine ⟨aj,?_⟩;refine Tq rfl (Ap Ac rfl rfl rfl (λwz Y=>iV (iW U Y) rfl)) (Tq rfl (AK rfl rfl (gz _ Ab)) (Tq rfl Mv (Tq rfl (AK rfl rfl (gz _ Ab)) (Tq rfl Mv (Tq rfl (AK rfl rfl (gz _ Ab)) (eT ?_))))));refine Tq rfl (Ap Ac rfl rfl rfl (λwz Y=>iT (iO ab Y) rfl)) (Tq rfl (AK rfl rfl (gz _ Ab)) ?_);clear aj aa af U ai ab;refine At rfl (C1 (OC (m:=hi) rfl rfl Ab) (eK ?_));refine C1 (AK rfl rfl (gz _ Ab)) (eK ?_);have HD:=HD.out.ext hJ X;have br:0<=V:=by omega
   clear ae r0 ry s0 hr ay az a0 bf;refine AG (ι:=Nat×(nP)×List Int) (λy=>[(0,.int .i64 F.length),(1,.int .i64 i),(2,.int .i64 left),(3,.pointer (some ⟨x.bS,0,none⟩)),(7,.pointer (some ⟨x.bN,0,none⟩)),(13,.int .i64 V),(67,.int .i64 (hi-V+1)),(68,.int .i64 y.1)])
    (λy w'=>y.1<=(hi-V+1).toNat/\y.2.2.length=zs.length/\y.2.2.take i=zs.take i/\(∀k,A k->y.2.1 k)/\x.D J y.2.1 (out++(it y.1).flatMap λ(m:Nat)=>Xs x.h x.ls F (zs.take i++[CB (V+m)]) k (left-1-V-m)) w' (F++[y.2.2]))
    (λy=>(hi-V+1).toNat-y.1) (0,_,zs) sB ⟨gC _,rfl,rfl,λ_ h=>gq h,by rw [List.range_zero,List.flatMap_nil,List.append_nil];exact HD⟩ ?_
   clear HD X;rintro ⟨m,B,ys⟩ w7 ⟨bh,al,aw,am,M⟩;simp only at bh al aw am M;refine jl (m:=[(0,.int .i64 F.length),(1,.int .i64 i),(2,.int .i64 left),(3,.pointer (some ⟨x.bS,0,none⟩)),(7,.pointer (some ⟨x.bN,0,none⟩)),(13,.int .i64 V),(67,.int .i64 (hi-V+1)),(68,.int .i64 m)]) ?_ sB;by_cases bi:m<(hi-V+1).toNat
   . obtain ⟨b,hr,Y,hb,ag,ap,Z⟩:=M.l.at;have b0:=ar.out m Ab;have s0:=M.k.s0;have n0:=M.k.n0;have b1:=(M.lt b hb).2;have HD:=gp M;have HU:=gp Z;have HF:=gp ag;rw [al] at hr;have bj:i<ys.length:=by omega
     clear M Z ag;have X7:=iP (λk=>k=b) w7;refine eK ?_;refine Aq (λwz=>Ext w7 wz) 9 (.pure 0 (.pure 1 (.pure 2 (.pure 3 (.pure 4 (.pure 5 (.pure 6 (.pure 7 (.fork 8 .tail .none))))))))) mixed AT (Aa (Ae (Aa (Aa (Ae (Aa Ag)))))) ?_;intro bk a3 _;have ac:(λwz=>Ext w7 wz) bk:=a3;simp only at ac;have aa:=hr;have bs:=Y;have af:=s0;have bt:=n0;revert hr Y s0 n0 X7;refine eY a3 ?_;intro b2 hr Y s0 n0 X7;refine ⟨ac,?_⟩;refine eT ?_;refine Tq rfl (Ap Ac rfl rfl rfl (λwz Y=>iT (iO aa Y) rfl)) (eT ?_);refine tC rfl rfl (Xq (V+m) Ab _) ?_;rintro _ b3 ⟨⟨⟩,bl⟩;revert ac hr Y s0 n0 X7;refine eY bl ?_;intro b4 ac hr Y s0 n0 X7;refine ⟨ac,?_⟩;refine At rfl (C1 Pi (A2 (B7 (sh:=CY) (j:=i) (z:=CB (V+m)) (us:=[_]) Ac rfl rfl rfl rfl rfl rfl Af bj (gt Ab) rfl) (BA ?_)));rintro _ ad ⟨b5,ak,bu⟩;have bv:=ak.size;have hr:=i8 hr ak (by simp only;omega);clear Y s0 n0;have X7:=X7.fr ak Ab;refine cT ?_;have b6:=X7.size;have M:=HD.out;have a4:∀k,B k->DCx.grow B w7 ad k:=λ_ h=>gq h
     have ax:x.D J (DCx.grow B w7 ad) _ ad (F++[ys.set i (CB (V+m))]):=M.grow hJ (X7.weaken λk (e:k=b)=>by subst e;exact hb) (M.k.fr X7 (λk hk e=>HF.out (e▸hk))) ((HU.out ad _ X7 Af AN).more a4);have a5:(ys.set i (CB (V+m))).length=zs.length:=by simp [al]
     have a6:(ys.set i (CB (V+m))).length-(i+1)=k:=by omega
     have a7:(ys.set i (CB (V+m))).take (i+1)=zs.take i++[CB (V+m)]:=by
      rw [gx (by rw [a5];omega),List.getElem_set_self,List.take_set_of_le (gI _),aw]
     have HX:=gp (au.out F (ys.set i (CB (V+m))) (i+1) _ _ ad (left-1-V-m) Ab hF ao Ab Ab Ab Ab ax (by rw [a7,a6];exact Ki HP.out bi));rw [a7,a6,I3] at HX;have n0:=ax.k.n0;clear M HU HF ax X7 a4;refine eK ?_;refine C1 (AK rfl rfl (gz _ Ab)) (C1 Mv (C1 (AK rfl rfl (gz _ Ab)) (C1 Mv (C1 (AK rfl rfl (gz _ Ab)) (Ax (A9 (fi:=[]) (ca:=x.capN) AT rfl rfl HX.out (λ_ _ h=>h.ret)) rfl ?_ aFh)))));rintro _ b7 ⟨b8,an,⟨⟩,a8,bm⟩;refine C1 Pt (cT ?_);have a9:∀k,A k->an k:=λk h=>a8 k (gq (am k h))
     obtain ⟨rfl,G,⟨us,rfl,ba,bn⟩,bo⟩|⟨rfl,bp,bq⟩:=bm
     . clear a8 am ar HP HX au;rw [a5] at ba;have bb:us.take i=zs.take i:=by
        have:=congrArg (List.take i) bn;rw [List.take_take,Nat.min_eq_left (Nat.le_succ i),List.take_left' (by rw [ij];omega)] at this;exact this
       refine eK ?_;exact Aw (m+1,an,us) sB ⟨by simp only;omega,ba,bb,a9,bo⟩ (by simp only;omega)
     . refine kR ?_;exact ⟨false,_,rfl,a9,gt ⟨rfl,bp,bq⟩⟩
   . obtain rfl:m=(hi-V+1).toNat:=by omega
     clear HP ar au;refine kR ?_;exact ⟨true,B,rfl,am,gq ⟨rfl,_,⟨ys,rfl,al,aw⟩,M⟩⟩
def bK {n M:Int} (N:1<=h) (O : -M<=n) (U:n<=M) : -M<=n.tdiv h/\n.tdiv h<=M:=by
 rcases Int.le_total 0 n with G|G
 . rw [Int.tdiv_eq_ediv_of_nonneg G];have a:=Int.ediv_nonneg G (show 0<=h by omega);have b:=Int.ediv_le_self h G;omega
 . have e:n.tdiv h = -((-n)/h):=by
    rw [<-Int.tdiv_eq_ediv_of_nonneg (show 0 <= -n by omega),Int.neg_tdiv,Int.neg_neg]
   rw [e];have a:=Int.ediv_nonneg (show 0 <= -n by omega) (show 0<=h by omega);have b:=Int.ediv_le_self h (show 0 <= -n by omega);omega
set_option maxHeartbeats 8000000 in
def Zz (x:DCx) (hx:x.Ok) (J Jx:(Nat->Prop)->List SV->World->Prop) (hJ:Et x.c J) (S:List SV)
 (hY:∀A pre s vs W1,(∀k,A k->x.c<=k/\k<W1.heap.size)->J A pre W1->OQ x.c W1 vs s->(pre++[s]) <+: S->YieldAt (WF none) 0 Tryz.prog x.y vs.toArray W1 (SRes x.Rt J Jx A (pre++[s]) W1))
 (N:Nat) (HN:x.CN J Jx S N):x.CL J Jx S (N+1):=by
 intro F A out W left hm hF hFl h0 h1 hD hpre
 by_cases hc:F.length=x.ls.length
 . rw [Zx hc] at hpre ⊢
   exact Xz x hx J Jx hJ S hY F A out W left hc hFl hD hpre
 . have hlt:F.length<x.ls.length:=by omega
   have hp:x.ls[F.length]? = some x.ls[F.length]:=gm hlt;rw [Xu hp] at hpre ⊢;have hpb:=hx.ls _ (gA hlt);have h0':=hD.k.h0;have r0:=hD.k.r0;have s0:=hD.k.s0;have l0:=hD.k.l0;have ry:=hD.k.rowR (c:=F.length+1) (by omega);obtain ⟨kb,ko,hla,-,hk⟩:=i9 hD.k.ld (by omega);have rx:Row W ⟨kb,ko+F.length*2,none⟩ [.int .i64 x.ls[F.length].1,.int .i64 x.ls[F.length].2]:=hk F.length _ hp;rw [hla] at l0;obtain ⟨r1,r2,r3,r4⟩:=hx.rest (F.length+1);have hh:=hx.h;have hn:=hx.n;have HP:=gp hpre;have HD:=gp hD;have HL2:=gp HN;have hgf:=hx.g;have HR:=gp hx.rt
   unfold eL fE cU dH at HP ⊢
   clear hpre hD HN hk hY hx hla hc
   generalize x.ls[F.length]=p at *
   generalize Bu x.h (x.ls.drop (F.length+1))=r at *
   obtain ⟨ra,rb⟩:=r;obtain ⟨pa,pb⟩:=p;simp only at r1 r2 r3 r4 rx ry hpb HP ⊢;obtain ⟨q,hq⟩:∃q,(left-rb+x.h-1).tdiv x.h=q:=⟨_,rfl⟩
   have hqb : -200000000<=q/\q<=200000000:=by
    rw [<-hq]
    exact bK hh.1 (by omega) (by omega)
   have hqw:iG .i64 ((left-rb+x.h-1).tdiv x.h)=q:=by rw [hq];exact gz _ (by omega)
   have V:x.h≠0:=by omega
   rw [hq] at HP ⊢;obtain ⟨lo,hlo⟩:∃lo,max pa q=lo:=⟨_,rfl⟩;obtain ⟨hi,hhi⟩:∃hi,min pb (left-ra)=hi:=⟨_,rfl⟩;rw [hlo,hhi] at HP ⊢;have X:=iK W;refine Ad Tryz.func115 Tryz.ntmps115 rfl rfl ?_
   focus
    refine cS (C1 Pa (cT (Aj (cS (C1 Mv (C1 (Pl s0) (C1 Pz (C1 V1 (cT (C6 (Ao ?_)))))))))));refine Ai (Aj ?_);refine Aq (λwz=>Ext W wz) 18 (.pure 0 (.pure 1 (.pure 2 (.pure 3 (.pure 4 (.pure 5 (.pure 6 (.pure 7 (.pure 8 (.pure 9 (.pure 10 (.pure 11 (.pure 12 (.pure 13 (.pure 14 (.pure 15 (.pure 16 (.pure 17 .tail)))))))))))))))))) mixed (by kernel_rfl) (Aa Ag) ?_;intro w1 x2 _;have O:(λwz=>Ext W wz) w1:=x2;simp only at O;have a:=h0';have i:=r0;have b:=s0;have o:=l0;have t:=ry;have u:=rx;have z4:=x2.size;replace h0':=iW h0' x2;replace r0:=r0.ext x2;replace s0:=s0.ext x2;replace l0:=l0.ext x2;replace ry:=ry.ext x2;replace rx:=rx.ext x2;replace X:=X.ext x2;clear x2;refine ⟨O,?_⟩;refine Tq rfl (Db o) (Tq rfl Mv (Tq rfl Pi (Tq rfl Pg (Tq rfl (Ap Ac rfl rfl rfl (λwz hz=>iT (iO u hz) rfl)) (Tq rfl Mv (Tq rfl (Db i) (Tq rfl Mv (Tq rfl V7 (Tq rfl Pi (Tq rfl Pf (Tq rfl (Dr t) ?_)))))))))));refine Tq rfl (AK rfl rfl (gz _ (by omega))) ?_;refine Tq rfl (Ap Ac rfl rfl rfl (λwz hz=>iV (iW a hz) rfl)) (Tq rfl V7 ?_);refine Tq rfl (AK rfl rfl (gz _ (by omega))) ?_;refine Tq rfl (Ap Ac rfl rfl rfl (λwz hz=>iV (iW a hz) rfl)) (Tq rfl (Gz rfl rfl V hqw) ?_);clear O a i b o t u;refine At rfl (C1 (SQ (m:=lo) rfl rfl hlo) (C1 Pa (cT (Aj ?_))))
    refine Aq (λwz=>Ext w1 wz) 13 (.pure 0 (.pure 1 (.pure 2 (.pure 3 (.pure 4 (.pure 5 (.pure 6 (.pure 7 (.pure 8 (.pure 9 (.pure 10 (.pure 11 (.pure 12 .tail))))))))))))) mixed (by kernel_rfl) (Aa Ag) ?_;intro w5 x6 _;have Q:(λwz=>Ext w1 wz) w5:=x6;simp only at Q;have a:=h0';have i:=r0;have b:=s0;have o:=l0;have t:=ry;have u:=rx;have z8:=x6.size;replace h0':=iW h0' x6;replace r0:=r0.ext x6;replace s0:=s0.ext x6;replace l0:=l0.ext x6;replace ry:=ry.ext x6;replace rx:=rx.ext x6;replace X:=X.ext x6;clear x6;refine ⟨Q,?_⟩;refine Tq rfl (Db o) (Tq rfl Mv (Tq rfl Pi (Tq rfl Pf (Tq rfl (Dr u) (Tq rfl Mv (Tq rfl (Db i) (Tq rfl Mv (Tq rfl V7 (Tq rfl Pi (Tq rfl Pg (Tq rfl (Ap Ac rfl rfl rfl (λwz hz=>iT (iO t hz) rfl)) ?_)))))))))));refine Tq rfl (AK rfl rfl (gz _ (by omega))) ?_;clear Q a i b o t u;refine At rfl (C1 (OC (m:=hi) rfl rfl hhi) (C1 Pa (cT (Aj (cS (C1 Mv (C1 Mv ?_)))))));refine C1 (AK rfl rfl (gz _ (by omega))) ?_;refine C1 V7 (C1 Mv (cT ?_));rotate_left 1
   have hD:=HD.out.ext hJ X
   have ac:pa<=lo:=by omega
   have ad:hi<=pb:=by omega
   clear HD X rx ry r0 h0' s0 l0 hqw hq hlo hhi hqb;refine As ?_;refine AG (ι:=Nat×(Nat->Prop)) (λy=>[(0,.int .i64 F.length),(1,.int .i64 left),(2,.pointer (some ⟨x.bS,0,none⟩)),(7,.pointer (some ⟨x.bN,0,none⟩)),(13,.int .i64 lo),(71,.int .i64 (hi-lo+1)),(72,.int .i64 y.1)])
    (λy w'=>y.1<=(hi-lo+1).toNat/\(∀k,A k->y.2 k)/\x.D J y.2 (out++(it y.1).flatMap λ(m:Nat)=>Xs x.h x.ls F [] (lo+m).toNat left) w' F)
    (λy=>(hi-lo+1).toNat-y.1) (0,_) (by (refine Am rfl ?_;refine Am rfl ?_;refine Am rfl ?_;refine Am rfl ?_;refine Am rfl ?_;refine Am rfl ?_;refine Am rfl ?_;exact BB)) ⟨gC _,λ_ h=>gq h,by rw [List.range_zero,List.flatMap_nil,List.append_nil];exact hD⟩ ?_
   clear hD;rintro ⟨m,B⟩ w7 ⟨Y,hAB,hD⟩;simp only at Y hAB hD;refine jl (m:=[(0,.int .i64 F.length),(1,.int .i64 left),(2,.pointer (some ⟨x.bS,0,none⟩)),(7,.pointer (some ⟨x.bN,0,none⟩)),(13,.int .i64 lo),(71,.int .i64 (hi-lo+1)),(72,.int .i64 m)]) ?_ (by (refine Am rfl ?_;refine Am rfl ?_;refine Am rfl ?_;refine Am rfl ?_;refine Am rfl ?_;refine Am rfl ?_;refine Am rfl ?_;exact BB))
   by_cases T:m<(hi-lo+1).toNat
   . obtain ⟨bl,cs,hcs,hcl,h3,h4⟩:=hD.l;obtain ⟨k,hk⟩:∃k:Nat,lo+m=k:=⟨(lo+m).toNat,by omega⟩
     have aj:k<=1000:=by omega
     have hkn:(lo+m).toNat=k:=by omega
     have hadd:iG .i64 (lo+m)=(k:Int):=by rw [hk];exact gz _ (by omega)
     have s0:=hD.k.s0;have hgl:=(hD.lt _ hD.ag).2;have HD:=gp hD;have H3:=gp h3;have H4:=gp h4
     have hcF:F.length<cs.length:=by omega
     clear hD h3 h4;have X7:=iP (λk=>k=x.g) w7
     focus
      refine cS (C1 V3 (cT (Aj (O8 (Ao (Ai (Aj (As (cS (C1 Mv (C1 Pa ?_)))))))))));refine cT (Aj ?_);refine Aq (λwz=>Ext w7 wz) 6 (.pure 0 (.pure 1 (.pure 2 (.pure 3 (.pure 4 (.fork 5 .tail .none)))))) mixed (by kernel_rfl) (Aa (Ae (Aa (Aa (Ae (Aa Ag)))))) ?_;intro Z E _;have d:(λwz=>Ext w7 wz) Z:=E;simp only at d;have R:=hcs;have b:=s0;have ak:=E.size;replace hcs:=hcs.ext E;replace s0:=s0.ext E;replace X7:=X7.ext E;clear E;refine ⟨d,?_⟩;refine Tq rfl (Db b) (Tq rfl Mv (Tq rfl Mv (Tq rfl Mv (Tq rfl (Ia (c:=(k:Int)) rfl rfl hadd) ?_))));refine AE rfl (Dj (sh:=CY) (C:=0) (D:=0) (N:=k) (z:=0) Ac Cs rfl rfl rfl rfl (by kernel_rfl) rfl rfl (by omega) (λ_ _=>rfl)) rfl ?_ (λ_ h=>h) AD;rintro _ ae ⟨al,rfl,I,am,an,f⟩;have af:=f.size;replace d:=d.ext f;replace hcs:=hcs.ext f;replace s0:=s0.ext f;replace X7:=X7.ext f;clear f;refine ⟨d,?_⟩;clear R b d;refine At rfl (C1 Pi ?_);refine A2 (B7 (sh:=Hv) (j:=F.length) (us:=[_]) Ac rfl rfl rfl rfl rfl rfl (by assumption) hcF (gt (by omega)) ⟨rfl,rfl⟩) ?_;refine BA ?_;rintro _ v ⟨M,w,ah⟩;have ai:=w.size;replace I:=I.fr w (by omega);clear hcs s0;replace X7:=X7.fr w (by omega)
      clear w;refine cT ?_;rotate_left 1
     have ao:=X7.size;have hD:=HD.out;have hsz:=hD.sz
     have hfx:∀k,x.fix k->k<w7.heap.size:=λk hk=>(hD.own k hk).elim (λh=>by have:=HR.out k h;omega) (λh=>(hD.lt k h).2)
     have hAg:∀k,B k->DCx.grow B w7 v k:=λ_ h=>gq h
     have hD8:x.D J (DCx.grow B w7 v) _ v (F++[gT k 0]):=hD.grow hJ (X7.weaken λk (e:k=x.g)=>by subst e;exact hD.ag) (hD.k.fr X7 (λk hk (e:k=x.g)=>hgf (e▸hk)))
      (DCx.L.snoc hcl H3.out H4.out hlt X7 hAg ⟨gt ⟨by omega,by omega⟩,λh=>by have:=hfx _ h;omega,by omega⟩ (λh=>by have:=(hD.lt _ h).2;omega) I (by rw [List.length_replicate];exact M))
     have n0:=hD8.k.n0;have HX:=gp (HL2.out F (gT k 0) 0 _ _ v left (by omega) hlt hFl (by simp;omega) (by omega) h0 h1 hD8 (by rw [List.take_zero,List.length_replicate,Nat.sub_zero,<-hkn];exact Ki HP.out T));rw [List.take_zero,List.length_replicate,Nat.sub_zero,<-hkn,I3] at HX;clear hD HD H3 H4 hD8 X7 hAg hfx I M HR
     focus
      refine cS (C1 (Pl n0) (C1 Mv (C1 Mv ?_)));refine Ax (A9 (fi:=[]) (ca:=x.capN) (by kernel_rfl) rfl rfl HX.out (λ_ _ h=>h.ret)) rfl ?_ (λ_ h=>h);rintro _ aa ⟨ap,A'b2,⟨⟩,U,ab⟩;refine C1 Pt (cT ?_);rotate_left 1
     have hBC:∀k,A k->A'b2 k:=λk h=>U k (gq (hAB k h))
     obtain ⟨rfl,G,⟨us,rfl,-,-⟩,hD9⟩|⟨rfl,hAc,hpr⟩:=ab
     . have hD9:x.D J A'b2 _ aa F:=⟨hD9.k,hD9.l.less,hD9.j,hD9.lt,hD9.own,hD9.ag,hD9.sz⟩;clear U hAB HP HX HL2
       focus
        refine AY rfl (Ao (Ah (Ai (Al (C1 V7 (C1 Mv (Ak ?_)))))));rotate_left 1
       exact Aw (m+1,A'b2) (by (refine Am rfl ?_;refine Am rfl ?_;refine Am rfl ?_;refine Am rfl ?_;refine Am rfl ?_;refine Am rfl ?_;refine Am rfl ?_;exact BB)) ⟨by simp only;omega,hBC,hD9⟩ (by simp only;omega)
     . focus
        refine BJ rfl (cS (C1 Pa (cT (AM (AJ (Au (Au (AJ (Au (AP rfl rfl ?_))))))))));rotate_left 1
       exact ⟨false,_,rfl,hBC,gt ⟨rfl,hAc,hpr⟩⟩
   . obtain rfl:m=(hi-lo+1).toNat:=by omega
     clear HP HL2
     focus
      refine cS (C1 V3 (cT (Aj (C6 (BF (Av (Av (AO (Ai (cS (C1 Pa ?_)))))))))));refine cT (AM (AP rfl rfl ?_));rotate_left 1
     exact ⟨true,B,rfl,hAB,gq ⟨rfl,_,rfl,hD⟩⟩
def Q3 (x:DCx) (M:x.Ok) (J Jx:(nP)->List SV->wD->Prop) (O:Et x.c J) (S:List SV)
 (U:∀A pre s vs G,(∀k,A k->x.c<=k/\k<G.heap.size)->J A pre G->OQ x.c G vs s->(pre++[s]) <+: S->YieldAt (WF none) 0 prog x.y vs.toArray G (SRes x.Rt J Jx A (pre++[s]) G)) :
 ∀N,x.CL J Jx S N/\x.CN J Jx S N
 | 0=>⟨λ_ _ _ _ _ h=>absurd h (Nat.not_lt_zero _),λ_ _ _ _ _ _ _ h=>absurd h (Nat.not_lt_zero _)⟩
 | N+1=>
  have ⟨h1,h2⟩:=Q3 x M J Jx O S U N
  ⟨Zz x M J Jx O S U N h2,Zy x M J Jx O S N h1 h2⟩
def MI {g:Operand} {p:Tmp} {G X:Code} {rep:Nat->wD->lV->α->Prop} {Z Fin:List α->Prop}
 (hp:gM p n=true) (hg:ev l g=some (.func (.func m) #[] lb.toArray)) (eg:BT P m=true) (ac:Jn P m lb rep A Z Fin w) (ab:∀c W vs x,rep c W vs x -> ∃u,vs=[u]) (ad:∀k,A k->k<w.heap.size)
 (J Jx:(nP)->List α->wD->Prop) (hJ:Et w.heap.size J) (ae:Et w.heap.size Jx) (h0:J (λ_=>False) [] w)
 (U:∀r Rt pre x u W,(∀k,Rt k->w.heap.size<=k/\k<W.heap.size)->Rt (w.heap.size+1)->J Rt pre W->rep (w.heap.size+2) W [u] x->Z (pre++[x]) ->
  CR P n (some r) G (Exit.then (Ii P (some r) (λk=>Rt k\/A k) (w.heap.size+1) X (λW₂=>Eb (λk=>Rt k\/A k) J Jx Rt (pre++[x]) W₂) W) (λ_ _ _=>False)) ((p,u)::l) W)
 (M:∀Rt S W,Fin S->(∀k,Rt k->w.heap.size<=k)->J Rt S W->Rt w.heap.size->W.heap[w.heap.size]? = some (.deferred (some []))->Jq (GP w.heap.size) n Q .normal l W)
 (N:∀Rt pre W,(∀k,Rt k->w.heap.size<=k)->Z pre->Jx Rt pre W->Rt w.heap.size->W.heap[w.heap.size]? = some (.deferred (some []))->Jq (GP w.heap.size) n Q .ret l W) :
 CW P n (.rangeFunc g #[p] G X) Q l w:=by
 refine Tb λa V=>?_
 refine KF (V.ev hg) eg ac (λc W vs x h=>by obtain ⟨u,rfl⟩:=ab c W vs x h;rfl) ad J Jx hJ ae h0 (λr Rt pre x vs W hA af hj Y O=>?_) (λRt S W hS hA hj aa hk=>?_) (λRt pre W hA O hj aa hk=>?_)
 . obtain ⟨u,rfl⟩:=ab _ W vs x Y;refine U r Rt pre x u W hA af hj Y O _ ?_;have e1:Env n l { a with defers:=[] }:=⟨V.size,rfl,V.has⟩
   simpa [Act.put] using e1.put hp u
 . unfold Jq at M;exact M Rt S W hS hA hj aa hk _ ⟨⟨V.size,rfl,V.has⟩,by rw [V.defers];rfl⟩
 . unfold Jq at N;exact N Rt pre W hA O hj aa hk _ ⟨⟨V.size,rfl,V.has⟩,by rw [V.defers];rfl⟩
def Vf {g:Operand} {p:Tmp} {G N:Code} {rep:Nat->wD->lV->α->Prop} {S:List α}
 (hp:gM p n=true) (hg:ev l g=some (.func (.func m) #[] lb.toArray)) (eg:BT P m=true) (Y:IterOk P m lb rep A S w) (Z:∀c W vs x,rep c W vs x -> ∃u,vs=[u]) (aa:∀k,A k->k<w.heap.size)
 (J Jx:(nP)->List α->wD->Prop) (hJ:Et w.heap.size J) (ab:Et w.heap.size Jx) (h0:J (λ_=>False) [] w)
 (M:∀r V pre x u W,(∀k,V k->w.heap.size<=k/\k<W.heap.size)->V (w.heap.size+1)->J V pre W->rep (w.heap.size+2) W [u] x->(pre++[x]) <+: S ->
  CR P n (some r) G (Exit.then (Ii P (some r) (λk=>V k\/A k) (w.heap.size+1) N (λW₂=>Eb (λk=>V k\/A k) J Jx V (pre++[x]) W₂) W) (λ_ _ _=>False)) ((p,u)::l) W)
 (O:∀V W,(∀k,V k->w.heap.size<=k)->J V S W->V w.heap.size->W.heap[w.heap.size]? = some (.deferred (some []))->Jq (GP w.heap.size) n Q .normal l W)
 (U:∀V pre W,(∀k,V k->w.heap.size<=k)->pre <+: S->Jx V pre W->V w.heap.size->W.heap[w.heap.size]? = some (.deferred (some []))->Jq (GP w.heap.size) n Q .ret l W) :
 CW P n (.rangeFunc g #[p] G N) Q l w  :=
 MI hp hg eg Y.gen Z aa J Jx hJ ab h0 M (λV S' W e h=>by subst e;exact O V W h) U
def DistR (c:Nat) (J Jx:(nP)->List SV->wD->Prop) (S:List SV) (A:nP) (out:List SV) (gr:Nat) (V:List (Int×Int)):Ending->wD->Prop:=λe W'=>
 ∃q A',e = .returned (.bool q)/\(∀k,A k->A' k)/\((q=true/\J A' out W'/\ArrS CI 0 0 W' gr V/\(∀k,A' k->c<=k/\k<W'.heap.size)/\c<=W'.heap.size)\/(q=false/\(∀k,A' k->c<=k) /\ ∃pre,pre <+: S/\Jx A' pre W'))
def DistR.ret {c:Nat} {Jx:(nP)->List SV->wD->Prop} {out:List SV} {V:List (Int×Int)} (h:DistR c J Jx S A out n V e w):∃v,e = .returned v:=by
 obtain ⟨_,_,h,-⟩:=h;exact ⟨_,h⟩
set_option maxHeartbeats 8000000 in
def OR (y c gr lc:Nat) (la:oA) (h:Int) (ls:List (Int×Int)) (Rt:nP) (al:∀k,Rt k->k<c) (hh:1<=h/\h<=2001) (am:∀p∈ls,0<=p.1/\p.1<=p.2/\p.2<=1000) (hn:1<=ls.length/\ls.length<=33) (J Jx:(nP)->List SV->wD->Prop) (hJ:Et c J) (S:List SV)
 (hY:∀A pre s vs W1,(∀k,A k->c<=k/\k<W1.heap.size)->J A pre W1->OQ c W1 vs s->(pre++[s]) <+: S->YieldAt (WF none) 0 prog y vs.toArray W1 (SRes Rt J Jx A (pre++[s]) W1))
 (A:nP) (out:List SV) (W:wD) (wt:Int) (h0:0<=wt) (h1:wt<=70000000) (hj:J A out W) (hA:∀k,A k->c<=k/\k<W.heap.size) (hc:c<=W.heap.size) (hg:A gr) (V:ArrS CI 0 0 W gr (It h ls 0)) (hl:Arr Rt 2 K7 W ls la) (ac:(out++Q1 h ls [] wt) <+: S) :
 Calls prog 85 #[.slice la ls.length lc,.slice (some ⟨gr,0,none⟩) (ls.length+1) (ls.length+1),.int .i64 h,.int .i64 wt,.func (.yield y) #[] #[]] W (DistR c J Jx S A (out++Q1 h ls [] wt) gr (It h ls 0)):=by
 have X:=iK W;have a7:=(hA gr hg).2;have HL:Hid (∀w2,Ext W w2->Arr Rt 2 K7 w2 ls la):=gp λw2 x=>hl.mono aFh (λ_ _ _ _ _ h=>iO h x)
 have HY:=gp hY;have HA:=gp hA;have HR:=gp al;have HJ:=gp hj;have HS:=gp am;clear hl hY hA hj am al;refine Ad func85 ntmps85 rfl rfl (cS (eB [_] ?_));intro b1 w2 Z x5 p6 z7;revert V X;refine eE x5 ?_;intro V X;refine eB [_] ?_;intro b8 w9 G au a8 a9;revert Z V X;refine eE au ?_;intro Z V X;refine eB [_] ?_;intro ad ba M av bb bc;revert G Z V X;refine eE av ?_;intro G Z V X;refine eB [_] ?_;intro ae bd O aw be z28;revert M G Z V X;refine eE aw ?_;intro M G Z V X;refine eK ?_;refine Ax (Dj (sh:=Hv) (C:=0) (D:=0) (N:=ls.length) (z:=.slice none 0 0) Ac Cs rfl rfl rfl rfl AT rfl rfl Ab (λ_ _=>⟨rfl,rfl⟩)) rfl ?_ aFh;rintro _ bf ⟨aa,rfl,U,bg,bh,ax⟩;revert O M G Z V X;refine eE ax ?_;intro O M G Z V X;refine xA [_] ?_;intro af bi ay;refine eI [_] ay ?_;intro bj Y az bk bl;revert U O M G Z V X;refine eE az ?_;intro U O M G Z V X;refine cN (eA [_] ?_);intro an bm ag a0 bn bo;revert Y U O M G Z V X;refine eE a0 ?_;intro Y U O M G Z V X;refine cN (eA [_] ?_);intro ah bp ai a1 bq br;revert ag Y U O M G Z V X;refine eE a1 ?_;intro ag Y U O M G Z V X;refine cN (C1 (BW rfl) (eS [_] ag ?_));intro bs aj a2 bt;revert ai Y U O M G Z V X;refine eF a2 ?_;intro ai Y U O M G Z V X
 refine cN (C1 (BW rfl) (eS [_] ai ?_));intro ab ao a3 bu;revert aj Y U O M G Z V X;refine eF a3 ?_;intro aj Y U O M G Z V X;refine cT ?_;obtain ⟨x,hx⟩:∃x:DCx,x=⟨y,c,ae,b1,b8,ad,af,an,ah,aa,gr,lc,la,h,ls,Rt⟩:=⟨_,rfl⟩;have hA:=HA.out;have bv:=hA gr hg;have ak:∀k,x.fix k↔(Rt k\/k=ae\/k=b1\/k=b8\/k=ad\/k=af\/k=an\/k=ah\/k=gr):=λk=>by rw [hx];exact Iff.rfl
 have ap:¬x.fix aa:=by
  rw [ak];rintro (h|h)
  . have:=HR.out _ h;omega
  . omega
 have aq:x.Ok:=⟨by rw [hx];exact HR.out,by rw [hx];exact hh,by rw [hx];exact HS.out,by rw [hx];exact hn,by rw [show x.g=aa by rw [hx]];exact ap⟩
 have hD:x.D J (DCx.grow A W ab) out ab []:=by
  have hl:=HL.out _ X;refine ⟨by rw [hx];exact ⟨O,Z,G,M,Y,aj,ao,hl,V⟩,by rw [hx];exact ⟨λ_=>0,_,U,by rw [List.length_replicate],λi xs hi=>by simp at hi,λi j hi=>by simp at hi⟩,
   DCx.grow_j hJ HJ.out hA hc (iM X),λk hk=>?_,λk hk=>?_,?_,?_⟩
  . have:c<=k/\k<ab.heap.size:=hk.elim (λh=>⟨(hA k h).1,by have:=(hA k h).2;omega⟩) (λh=>⟨Ab,h.2⟩);rw [hx];exact this
  . rw [ak] at hk;rw [hx];rcases hk with h|h
    . exact gq h
    . right;by_cases e:k=gr
      . exact gq (e▸hg)
      . exact gt ⟨Ab,Ab⟩
  . have:W.heap.size<=aa/\aa<ab.heap.size:=⟨Ab,Ab⟩;rw [hx];exact gt this
  . rw [hx];show c<=_;omega
 have HX:=gp ((Q3 x aq J Jx (by rw [hx];exact hJ) S (by rw [hx];exact HY.out) (x.ls.length*1002+1)).1 [] _ out ab wt AN AN AN h0 h1 hD (by rw [hx];exact ac));rw [hx] at HX;clear aq hD ap V ak Z G M O U Y ao hA HA HY HJ HR HS HL ac;refine eK ?_;refine Ax (A9 (fi:=[]) (ca:=[.pointer (some ⟨af,0,none⟩),.pointer (some ⟨ae,0,none⟩),.pointer (some ⟨b1,0,none⟩),.pointer (some ⟨b8,0,none⟩),.pointer (some ⟨ad,0,none⟩),.pointer (some ⟨ah,0,none⟩)]) AT rfl rfl HX.out (λ_ _ h=>h.ret)) rfl ?_ aFh;rintro _ bw ⟨bx,a6,⟨⟩,ar,a4⟩;refine kR ?_;obtain ⟨rfl,F,rfl,hD⟩|⟨rfl,a5,hp⟩:=a4
 . exact ⟨true,_,rfl,λk h=>ar k (gq h),gq ⟨rfl,hD.j,hD.k.rs,hD.lt,hD.sz⟩⟩
 . exact ⟨false,_,rfl,λk h=>ar k (gq h),gt ⟨rfl,a5,hp⟩⟩
def Sx {F:Fence} {l:Nat} {args:Array Value} {R':Ending->wD->Prop} (h:YieldAt F m P l args W R) (N:∀e w,R e w->R' e w):YieldAt F m P l args W R':=by
 obtain ⟨fn,tmps,G,M,O,U⟩:=h;exact ⟨fn,tmps,G,M,O,U.mono N⟩
def dQ {vs:lV} (h:OQ n W vs s):∃u,vs=[u]:=by
 obtain ⟨_,_,_,_,_,_,h,-⟩:=h;exact ⟨_,h⟩
set_option maxHeartbeats 8000000 in
def bM (vs:List VD) (b:BoxV) (hb:b.ok) (hv:CS vs) (N:nP) (bo bb bl:Nat) (la:oA) (lc:Nat) (w:wD) (an:∀k,N k->k<w.heap.size) (hR:N bo/\N bb/\N bl) (p1:Blk w bo [.bool true]) (p2:Blk w bb [.int .i64 b.v,.int .i64 b.l,.int .i64 b.i]) (p3:Blk w bl [.slice la (CF vs b).length lc]) (p4:Arr N 2 K7 w (CF vs b) la) :
 IterOk prog 83 [.pointer (some ⟨bo,0,none⟩),.pointer (some ⟨bb,0,none⟩),.pointer (some ⟨bl,0,none⟩)] OQ N (MY vs b) w:=by
 intro y J Jx W hK hJ ay hY h0;have az:=hK.size;obtain ⟨o1,o2,o3⟩:=hR;have p1:=p1.fr hK (λe=>e o1);have p2:=p2.fr hK (λe=>e o2);have p3:=p3.fr hK (λe=>e o3);replace p4:Arr N 2 K7 W (CF vs b) la:=p4.mono aFh (λb _ _ _ hb h=>i8 h hK (λe=>e hb));have ag:∀k,N k->k<W.heap.size:=λk hk=>Nat.lt_of_lt_of_le (an k hk) az
 have ac:=Oj hb hv;have ba:=JW vs b;have bc:=hv.1;have hS:MY vs b=(it ((Bu (2*b.v+1) (CF vs b)).2-(Bu (2*b.v+1) (CF vs b)).1+1).toNat).flatMap λ(m:Nat)=>Q1 (2*b.v+1) (CF vs b) [] ((Bu (2*b.v+1) (CF vs b)).1+m):=by
  rw [<-Xw];exact AQ ⟨hb,hv⟩
 have hh:1<=2*b.v+1/\2*b.v+1<=2001:=by have:=hb.1;omega
 have hm:iG .i64 (2*b.v)=2*b.v:=gz _ Ab;have a0:=OP hh (CF vs b) ac;obtain ⟨V,ao,bi⟩:=b;simp only at *;generalize CF vs ⟨V,ao,bi⟩=O at *;generalize MY vs ⟨V,ao,bi⟩=S at *;obtain ⟨J2,Y⟩:∃J2:(nP)->List SV->wD->Prop,J2=λA out W'=>J A out W'/\Keeps N W W':=⟨_,rfl⟩
 have ah:Et W.heap.size J2:=by
  rw [Y];exact λA A' xs W1 W2 h f Z g2 g3=>⟨hJ A A' xs W1 W2 h.1 f Z g2 g3,h.2.trans (Keeps.of_fr f (λk hk hA=>by have:=ag k hk;have:=Z k hA;omega))⟩
 have ap:=gp (show ∀A pre s vs W1,(∀k,A k->W.heap.size<=k/\k<W1.heap.size)->J2 A pre W1->OQ W.heap.size W1 vs s->(pre++[s]) <+: S->YieldAt (WF none) 0 prog y vs.toArray W1 (SRes N J2 Jx A (pre++[s]) W1) from λA pre s vs W1 hA G hs hp=>by
  rw [Y] at G ⊢;exact Sx (hY A pre s vs W1 hA G.1 hs hp) (λe W2 ⟨k1,k2⟩=>⟨k1,k2.imp (λh=>⟨h.1,h.2,G.2.trans (k1.less λ_ h=>gt h)⟩) id⟩))
 have aq:J2 (λ_=>False) [] W:=by rw [Y];exact ⟨h0,Keeps.refl _ _⟩
 have HJ:=gp aq;have HR:=gp ag;have HL:=gp ac;have ar:=gp (λw1 h=>by have:=Ve O ac Ab (2*V+1) hh la lc w1 h;unfold dP at this;rw [GX] at this;exact this);have a1:Bds W O la:=p4.mono (λ_ _=>trivial) (λ_ _ _ _ _ h=>h);have ai:=gp p3;have aj:=gp p4;have X:=iK W;clear hY hJ ay h0 aq an ag hK p4 ac hb;show Calls _ _ #[.func (.yield y) #[] #[],.pointer (some ⟨bo,0,none⟩),.pointer (some ⟨bb,0,none⟩),.pointer (some ⟨bl,0,none⟩)] W _;refine Ad func83 ntmps83 rfl rfl (eK ?_);refine C1 (Ib rfl rfl hm) (eK ?_);refine Ax (AR AT rfl (ar.out _ Af) (λ_ _ ⟨_,h⟩=>⟨_,h.1⟩)) rfl ?_ aFh;rintro _ w6 ⟨Z,⟨⟩,h2,h3,h4,x5⟩;have X:=X.ext x5;refine C1 Pa (cT ?_);obtain ⟨cs,ry,aa⟩:=h4.row (EK (m:=0) (j:=0) (gC _));rw [AQ (gC _),List.drop_zero] at aa;obtain rfl:cs=_:=aa;generalize a2:Bu (2*V+1) O=r at *;obtain ⟨U,rb⟩:=r;simp only at a0 hS ry;replace ry:Row w6 ⟨Z,0+0*2,none⟩ [.int .i64 U,.int .i64 rb]:=ry;clear p1 p2 p3 a1 ar;refine Aj (Aq (λwz=>Ext w6 wz) 11 (.pure 0 (.pure 1 (.pure 2 (.pure 3 (.pure 4 (.pure 5 (.pure 6 (.pure 7 (.pure 8 (.pure 9 (.pure 10 .done))))))))))) mixed AT (Aa Ag) ?_);intro au av _;have ad:(λwz=>Ext w6 wz) au:=av;simp only at ad;have M:=ry;revert h4 X;refine eY av ?_;intro bd h4 X;refine ⟨ad,?_⟩;refine eT ?_;refine Tq rfl (Dr M) (eT ?_);refine Tq rfl (Dr M) (Tq rfl (AK rfl rfl (gz _ Ab)) (Tq rfl V7 (Tq rfl Mv (Yf (Ai ?_)))))
 have G:=DCx.grow_j ah HJ.out (λ_ h=>h.elim) (gI _) (iM X);clear ry HJ;refine As ?_;refine AG (ι:=Nat×(nP)) (λz=>[(0,.func (.yield y) #[] #[]),(3,.pointer (some ⟨bl,0,none⟩)),(5,.int .i64 (2*V+1)),(6,.slice (some ⟨Z,0,none⟩) (O.length+1) (O.length+1)),(26,.int .i64 (rb-U+1)),(27,.int .i64 z.1)])
  (λz w'=>z.1<=(rb-U+1).toNat/\J2 z.2 ((it z.1).flatMap λ(m:Nat)=>Q1 (2*V+1) O [] (U+m)) w'/\ArrS CI 0 0 w' Z (It (2*V+1) O 0)/\z.2 Z/\(∀k,z.2 k->W.heap.size<=k/\k<w'.heap.size)/\W.heap.size<=w'.heap.size)
  (λz=>(rb-U+1).toNat-z.1) (0,DCx.grow (λ_=>False) W au) sB ⟨gC _,by rw [List.range_zero,List.flatMap_nil];exact G,h4,gt ⟨Ab,Ab⟩,λk hk=>hk.elim (λh=>h.elim) id,X.size⟩ ?_
 clear G h4 X;rintro ⟨m,A⟩ w7 ⟨a3,G,hr,hg,hA,hz⟩;simp only at a3 G hr hg hA hz;refine jl (m:=[(0,.func (.yield y) #[] #[]),(3,.pointer (some ⟨bl,0,none⟩)),(5,.int .i64 (2*V+1)),(6,.slice (some ⟨Z,0,none⟩) (O.length+1) (O.length+1)),(26,.int .i64 (rb-U+1)),(27,.int .i64 m)]) ?_ sB;by_cases a4:m<(rb-U+1).toNat
 . have ak:Keeps N W w7:=by rw [Y] at G;exact G.2
   have p3:=ai.out.fr ak (λe=>e o3);have p4:Arr N 2 K7 w7 O la:=aj.out.mono aFh (λb _ _ _ hb h=>i8 h ak (λe=>e hb));have ab:=Ki (f:=λ(m:Nat)=>Q1 (2*V+1) O [] (U+m)) (out:=[]) (S:=S) (by rw [List.nil_append,hS];exact List.prefix_refl _) a4;have al:=I3 (f:=λ(m:Nat)=>Q1 (2*V+1) O [] (U+m)) (m:=m) (out:=[]);simp only [List.nil_append] at ab al;have HX:=gp (show ∀w8,Ext w7 w8->_ from λw8 x8=>OR y W.heap.size Z lc la (2*V+1) O N HR.out hh HL.out Ab J2 Jx ah S ap.out (DCx.grow A w7 w8) _ w8 (U+m) Ab Ab (DCx.grow_j ah G hA hz (iM x8))
    (λk hk=>hk.elim (λh=>⟨(hA k h).1,by have:=(hA k h).2;have:=x8.size;omega⟩) (λh=>⟨Ab,h.2⟩)) (by have:=x8.size;omega) (gq hg) (hr.ext x8) (p4.mono aFh (λ_ _ _ _ _ h=>iO h x8)) ab)
   rw [al] at HX;obtain ⟨cs,ry,aa⟩:=hr.row (EK (m:=0) (j:=0) (gC _));rw [AQ (gC _),List.drop_zero,a2] at aa;obtain rfl:cs=_:=aa;replace ry:Row w7 ⟨Z,0+0*2,none⟩ [.int .i64 U,.int .i64 rb]:=ry;have X7:=iK w7;clear G hr ak p4 ab al ai aj HR ap HL;refine eK ?_;refine Aq (λwz=>Ext w7 wz) 10 (.pure 0 (.pure 1 (.pure 2 (.pure 3 (.pure 4 (.pure 5 (.pure 6 (.pure 7 (.pure 8 (.pure 9 .tail)))))))))) mixed AT (Aa (Ae (Aa (Aa (Ae Ag))))) ?_;intro a5 aw _;have ae:(λwz=>Ext w7 wz) a5:=aw;simp only at ae;have a9:=p3;have M:=ry;have X7:=X7.ext aw;refine ⟨ae,?_⟩;refine eT ?_;refine Tq rfl (Dr M) (Tq rfl Mv (Tq rfl V7 (Tq rfl Mv (At rfl (eQ rfl (HX.out _ Af) ?_)))));rintro _ be ⟨bf,af,⟨⟩,ax,a6⟩;refine C1 Pt (cT ?_);obtain ⟨rfl,G,hr,am,a7⟩|⟨rfl,am,hp⟩:=a6
   . have a8:=ax Z (gq hg);clear ax hA hz hg;refine eK ?_;exact Aw (m+1,af) sB ⟨by simp only;omega,G,hr,a8,am,a7⟩ (by simp only;omega)
   . refine eK ?_;refine EF rfl ?_;exact ⟨⟨_,rfl⟩,af,am,gt hp⟩
 . obtain rfl:m=(rb-U+1).toNat:=by omega
   clear ai aj;rw [<-hS,Y] at G;refine cS (C1 V3 (cT (Aj (C6 (BF (Av (Av (AO (Bi rfl ?_)))))))));exact ⟨⟨_,rfl⟩,A,λk h=>(hA k h).1,gq G.1⟩
def bO (G N O:Nat) (U:nP) (w:wD) (Z:U G) (V:Blk w G [.bool false]) :
 IterOk prog 83 [.pointer (some ⟨G,0,none⟩),.pointer (some ⟨N,0,none⟩),.pointer (some ⟨O,0,none⟩)] OQ U [] w:=by
 intro y J Jx W X hJ M hY Y;have V:=V.fr X (λe=>e Z);have H0:=gp Y;clear X hJ M hY Y;show Calls _ _ #[.func (.yield y) #[] #[],.pointer (some ⟨G,0,none⟩),.pointer (some ⟨N,0,none⟩),.pointer (some ⟨O,0,none⟩)] W _;refine Ad func83 ntmps83 rfl rfl (eK ?_);refine EF rfl ?_;exact ⟨⟨_,rfl⟩,λ_=>False,λ_ h=>h.elim,gq H0.out⟩
def AllR (vs:List VD) (b:BoxV) (w:wD):Ending->wD->Prop:=λe w'=> ∃bo bb bl,e = .returned (.func (.func 83) #[] #[.pointer (some ⟨bo,0,none⟩),.pointer (some ⟨bb,0,none⟩),.pointer (some ⟨bl,0,none⟩)]) /\
 IterOk prog 83 [.pointer (some ⟨bo,0,none⟩),.pointer (some ⟨bb,0,none⟩),.pointer (some ⟨bl,0,none⟩)] OQ (λk=>w.heap.size<=k/\k<w'.heap.size) (MY vs b) w'/\Ext w w'
def AllR.ret {b:BoxV} {w':wD} (h:AllR vs b w e w'):∃v,e = .returned v:=by
 obtain ⟨_,_,_,h,-⟩:=h;exact ⟨_,h⟩
def dR (vs:List VD) (hl:vs.length<=1000000) (b:BoxV) (S:nP) (a:oA) (c:Nat) (w:wD) (hs:VDs S w vs a) :
 Calls prog 47 #[.slice a vs.length c,.agg #[.int .i64 b.v,.int .i64 b.l,.int .i64 b.i]] w (AllR vs b w):=by
 have X:=iK w;by_cases V:b.ok/\CS vs
 . have HL:=gp (λw1 h=>L8 vs b V.1 V.2 S a c w1 h);have HA:=gp (bM vs b V.1 V.2);clear V;obtain ⟨bv,bl,bi⟩:=b;simp only at HL HA;refine Ad func47 ntmps47 rfl rfl (cS (Dl [_,_,_] rfl rfl rfl ?_));intro b1 w2 n3;have M:=n3.blk;dsimp only at M;have x5:=n3.ext;have p6:=n3.pos;have z7:=n3.size;revert hs X;refine eE x5 ?_;intro hs X;refine eK ?_;refine Ax (AR AT rfl (HL.out _ Af) (λ_ _ ⟨_,_,h⟩=>⟨_,h.1⟩)) rfl ?_ aFh;rintro _ a5 ⟨a8,c9,⟨⟩,G,aj⟩;revert M X;refine eY aj ?_;intro a6 M X;refine eK ?_;refine eA [_] ?_;intro a7 a9 Z ak ba bb;revert G M X;refine eE ak ?_;intro G M X;refine eA [_] ?_;intro bc bd aa al be bf;revert Z G M X;refine eE al ?_;intro Z G M X;refine eS [_] Z ?_;intro bg ab ac bh;revert aa G M;refine eF ac ?_;intro aa G M;clear hs;have X:=X.fr ac Ab;refine eS [_] aa ?_;intro am an ao bj;revert ab G M X;refine eF ao ?_;intro ab G M X;refine cN (C1 (BW rfl) (kR ?_));exact ⟨_,_,_,rfl,HA.out (λk=>w.heap.size<=k/\k<am.heap.size) _ _ _ _ _ _ (λk hk=>hk.2) ⟨⟨Ab,Ab⟩,⟨Ab,Ab⟩,Ab,Ab⟩ an M ab (Arr.mono G (λb h=>⟨Ab,Ab⟩) (λ_ _ _ _ _ h=>h)),X⟩
 . have HL:=gp (λw1 h=>Nx vs hl b V S a c w1 h);have e:MY vs b=[]:=AB V;clear V;unfold AllR;rw [e];obtain ⟨bv,bl,bi⟩:=b;simp only at HL;refine Ad func47 ntmps47 rfl rfl (cS (Dl [_,_,_] rfl rfl rfl ?_));intro bk bm U;have ap:=U.blk;dsimp only at ap;have aq:=U.ext;have bn:=U.pos;have bo:=U.size;revert hs X;refine eE aq ?_;intro hs X;refine kC (HL.out _ Af) ?_;rintro _ bp ⟨⟨⟩,ad⟩;have ar:=ad.size;have X:=X.ext ad;refine eK ?_;refine eA [_] ?_;intro au av N ae aw ax;have X:=X.ext ae;refine eA [_] ?_;intro ay az O af a0 a1;revert N X;refine eE af ?_;intro N X;refine eS [_] N ?_;intro a2 _ Y a3;have O:=O.fr Y Ab;clear hs;have X:=X.fr Y Ab;refine eS [_] O ?_;intro ag ah ai a4;have X:=X.fr ai Ab;refine cN (C1 (BW rfl) (kR ?_));exact ⟨_,_,_,rfl,bO _ _ _ (λk=>w.heap.size<=k/\k<ag.heap.size) _ ⟨Ab,Ab⟩ ah,X⟩
def bQ {fn:Func} (h:QW n (bodyPost P fn R) .ret l w):QW n (bodyPostM (WF none) 0 P fn R) .ret l w:=by
 unfold QW at h ⊢;intro a G;obtain ⟨M,N⟩:=h a G;show LeavesInM _ _ _ _ _ _ a.defers _ _;rw [M];exact N
def XA {fn:Func} (G:w.heap[m]? = some (.deferred (some []))) (h:∀w',Fr (· = m) w w'->QW n (bodyPost P fn R) .ret l w'):Jq (GP m) n (bodyPostM (WF none) 0 P fn R) .ret l w:=by
 unfold Jq;intro a M;show LeavesInM _ _ _ _ _ _ a.defers _ _;rw [M.2];refine ⟨AN,.inl ⟨_,_,rfl,run_takeDeferred G,?_⟩⟩;have N:=h (w.putObj m (.deferred none)) (Ih _ G);unfold QW at N;obtain ⟨-,v,O,U⟩:=N _ M.1;exact ⟨v,O,U⟩
def Vg {o:Oper} {a:Act} {K:Act->wD->Prop} (N:∀w d w',(execOp a.eval o).run P w≠.ok (.defer d) w') (h:o.wp P { a with defers:=[] } w (λM w'=>K { M with defers:=a.defers } w') (λe M w'=>Q e { M with defers:=a.defers } w')):o.wp P a w K Q:=by
 unfold iB at h ⊢;have e:({ a with defers:=[] }:Act).eval=a.eval:=rfl;have O:LetsOut (λe M w'=>Q e { M with defers:=a.defers } w')->LetsOut Q:=λ⟨M,w',h⟩=>⟨_,w',h⟩
 have G:∀v,({ ({ a with defers:=[] }:Act).put o.dst v with defers:=a.defers }:Act)=a.put o.dst v:=λv=>by cases o.dst<;>rfl
 rw [e] at h;generalize U:(execOp a.eval o).run P w=x at h;cases x with
 | ok v w'=>
  cases v with
  | value v=>simp only [Oper.upon,G] at h ⊢;exact h
  | skip=>simp only [Oper.upon,G] at h ⊢;exact h
  | enter f args=>
   simp only [Oper.upon,G] at h ⊢;exact ir h (λe w h=>by
    cases e with
    | returned v=>exact h
    | panicked c=>exact h
    | outgrown=>exact O h)
  | row r args=>simp only [Oper.upon,G] at h ⊢;exact h
  | defer d=>exact absurd U (N w d w')
  | _=>exact h.elim
 | halt v w'=>cases v<;>simp only [Oper.upon] at h ⊢ <;> first|exact h|exact h.elim
def Vh {D:List Deferred} {ops:Array Oper} {rest:List Oper} {op:Op} {ty:TypeId} {pos:String} {after:Array Edge} {K:Option Value->wD->Prop} (G:∀(a:Act) w d w',(execOp a.eval ⟨none,op,ty,pos,after,none⟩).run P w≠.ok (.defer d) w') (N:BD P n l op ty w K) (O:∀v w1,¬K (some v) w1) (k:∀w1,K none w1->RT P D n ops Q rest l w1) :
 RT P D n ops Q (⟨none,op,ty,pos,after,none⟩::rest) l w:=by
 unfold RT at k ⊢;intro a M;unfold wpList;rw [AQ (Bc rfl)];left;refine Vg (G a) ?_;unfold BD at N;refine N _ _ _ _ _ _ _ M.1 (λv w1 h=>absurd h (O v w1)) (λw1 h=>?_);exact k w1 h _ ⟨M.1,rfl.trans M.2⟩
def MJ {tab:Tab} {sz:Nat} {fn:Func} {Z M b N G X:Nat} {sk O:Sk} {vs:lV} {v:Value} (h:fn.results = #[.cell Z M,.cell N G]) (T:TabOk P tab) (ht:Az tab M=some (sk,sz)) (aa:Az tab G=some (O,m)) (hs:sk.agg=true) (ab:O.agg=false)
 (hv:look l Z=some (.pointer (some ⟨b,0,none⟩))) (ac:look l N=some (.pointer (some ⟨X,0,none⟩))) (hb:Blk w b vs) (ad:Blk w X [v]) (hl:vs.length=sz) (hR:R (.returned (.tuple #[.agg vs.toArray,v])) w):QW n (bodyPost P fn R) .ret l w:=by
 unfold QW;intro a ha;refine ⟨ha.defers,.tuple #[.agg vs.toArray,v],?_,hR⟩;have e:(loadVar M ⟨b,0,none⟩).run P w = .ok (.agg vs.toArray) w:=by
  simp only [gE,gP,gw,loadVar,Co (T _ _ _ ht),hs,if_true,B3 (T _ _ _ ht)];rw [<-hl,Cr hb.row]
 have e':(loadVar G ⟨X,0,none⟩).run P w = .ok v w:=by
  simp only [gE,gP,gw,loadVar,Co (T _ _ _ aa),ab];have hc:w.cell? ⟨X,0,none⟩=some v:=iV ad rfl;simp [load,Sem.run,hc]
 have U:=ha.has Z _ hv;have V:=ha.has N _ ac;simp only [Array.getD_eq_getD_getElem?] at U V;simp [results,h,U,V,e,e',asAddr]
def XB {t ty:TypeId} {y:Operand} {pos:String} {after:Array Edge} (a:Act) (w:wD) (d:Deferred) (w':wD):(execOp a.eval ⟨none,.store t x y,ty,pos,after,none⟩).run P w≠.ok (.defer d) w':=by
 simp only [execOp,gE];intro h;generalize (Instr.storeAt t (a.eval x) (a.eval y)).run P w=r at h;cases r<;>simp [gw,gP] at h
section
variable {P:Program} {r:Option Nat} {ops:Array Oper} {Q:Exit->Act->wD->Prop}
def XC {i:Nat} {a:Act} {G:Act->wD->Prop} (N:¬LetsOut Q) (O:∀o,ops[i]? = some o->Gi o=true) (h:wpOp P ops Q i G a w):wpOpIn (WF r) 0 P ops Q i G a w:=by
 unfold wpOp at h;unfold wpOpIn;cases ho:ops[i]? with
 | none=>rw [ho] at h;exact h
 | some o=>
  rw [ho] at h;simp only at h ⊢;by_cases M:Region.wanted o (yielded ops a.tmps)=true
  . rw [AQ M] at h ⊢;rcases h with h|h
    . exact Ta (O o ho) h
    . exact absurd h.2 N
  . rw [AB M] at h ⊢;exact ⟨λ_ _=>trivial,h⟩
def NT (N:¬LetsOut Q) (O:∀(i:Nat) (o:Oper),ops[i]? = some o->Gi o=true):∀(G:Nat) (M:Array Bool) (a:Act) (w:wD),wpAny P .any ops Q G M a w->wpAnyIn (WF r) 0 P .any ops Q G M a w
 | 0,_,_,_,h=>h
 | G+1,_,_,_,h=>⟨h.1,λi U=>wpOpIn_mono (λV w' X=>NT N O G _ V w' X) (XC N (O i) (h.2 i U))⟩
end
def MZ {Kp:nP} {J Jx:(nP)->List α->wD->Prop} {xs:List α}:C5 (Eb Kp J Jx A xs W):=λ_ _ _ _ _ h=>h
def XD {r:Option Nat} {G:List Oper} (S:wD->Prop) (K:Nat) (s:Sc) (hm:P.follows .mixedOrders=true) (N:(G.all Gi&&(Region.noSelect G.toArray&&(iy G.length K||II G.toArray K)&&Sc.ok G.toArray K true s G.length (iD G.length false)))=true) (hQ:C5 Q) (hL:¬LetsOut Q)
 (h:∀w1,Ext w w1->w1.heap=w.heap->S w1/\TW P n G.toArray Q S K s l w1):CR P n r (.region m G.toArray true) Q l w:=by
 intro a ha;simp only [gu] at N;obtain ⟨U,N⟩:=N;obtain ⟨h1,h2⟩:=h w.drew (iK w).drew rfl;unfold TW at h2;have V:∀i,i<K->D7 G.toArray K i:=by
  by_cases hK:K<G.toArray.size
  . have M:=N.1.2;simp only [Bool.or_eq_true] at M;rcases M with M|M
    . have:=gS M;simp at hK;omega
    . exact DM M hK
  . intro i hi O j o _ hj X _;have aa:j<G.toArray.size:=(Array.getElem?_eq_some_iff.1 X).1;omega
 have Y:DC G.toArray (iD G.length false):=λk o _ M=>by
  exfalso;rcases gK k G.length with Z|Z
  . simp [Z] at M
  . simp [iv,Z] at M
 refine wpIn_region_any hm (NT hL (λi o X=>List.all_eq_true.1 U o (io (by simpa using X))) _ _ _ _ (IJ (S:=S) (K:=K) _ _ _ _ ?_));have:=(HT.any N.1.1 V hQ s G.length (iD G.length false) a w.drew Y h1 (h2 a ha)).1 N.2;simpa using this
def dT {G:List Oper} (h:LI P n G.toArray Q G l w):CW P n (.region m G.toArray false) Q l w:=Tb λa N=>wpIn_region_lit (h a N)
def TC {ops:Array Oper} {rest:List Oper} {op:Op} {d:Nat} {ty:TypeId} {pos:String} {after:Array Edge} {v:Value} (h:Gi ⟨some d,op,ty,pos,after,none⟩=true) (G:Bh P n l (· = w) op ty v) (N:gM d n=true) (k:LI P n ops Q rest ((d,v)::l) w) :
 LI P n ops Q (⟨some d,op,ty,pos,after,none⟩::rest) l w:=λa M=>by
 unfold Bh at G;have e:=G a w (some d) pos after none M rfl;unfold wpListIn;rw [AQ (Bc rfl)];refine Ta h ?_;unfold iB;rw [e];exact k _ (M.put N v)
end Bk
