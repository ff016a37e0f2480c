/- Texts that the proofs of GradebookPlays need. No condition. (Part 2 of 9.) -/
import Derived.Test.YteiiipaobncfgaaGreatPGpl1
set_option linter.unusedSimpArgs false
set_option linter.unusedVariables false
set_option linter.defProp false
set_option maxRecDepth 100000
set_option maxHeartbeats 4000000
open Go.Proofs.Tryz
open Or renaming inl->gA,inr->gB
open Go.Result renaming andThen->gF
open Go renaming Calls->gS
open Except renaming bind->gZ
open Go.Value renaming slice->iA,int->iV,ownBlock->kw
open Nat renaming blt->iC,ble->jW,beq->kk
open Go.Region renaming ready->iH,binds->jM
open List renaming replicate->iK,range->jQ
open Go.DataW renaming trod->iQ
open Go.Builtin renaming zeroCells->jI
open Go.Addr renaming add->jY
open Go.Oper renaming wp->km
open Array renaming replicate->kn
open Go.IntKind renaming wrap->kN
open Go.Sem renaming run->kV
namespace Bk
abbrev Ne:=@Ext.refl
abbrev mr:=@Nd.sits.fr
abbrev mt:=@Fr.of_ext
abbrev mu:=@Blk.fr
abbrev mw:=@Row.ext
abbrev mx:=@Fr.refl
abbrev my:=@Blk.ext
abbrev mz:=@Ext.alloc
abbrev mA:=@Ext.trans
abbrev mB:=@Fr.fr
abbrev mC:=@Blk.cell
abbrev mE:=@Row.at0
abbrev mH:=@Ext.drew
abbrev mI:=@Ext.fr
abbrev mJ:=@Blk.row
abbrev mM:=@Arr.get
abbrev mN:=@Row.fr
abbrev mO:=@Own.fr
abbrev mS:=@rowSits.ext
abbrev mW:=@rowSits.fr
abbrev m7:=@CW.sub
abbrev nh:=@Nd.sits_mono
abbrev nm:=@Own.nil
abbrev nr:=@Nd.sits.ext
abbrev nw:=@TB.blk
end Bk
open Bk.Nd renaming size->mF,isExpr->mK,isBlock->mL,isPlace->mP,name->mQ,isStmt->mV,kind->mY,sits->m6,kids->nb
open Bk.Value renaming one->mG
namespace Bk
open Go
inductive StmtSh:Nd->Prop where
 | upd {k:Int} {x y:Nd}:(k=40\/k=41\/k=42\/k=56)->x.isPlace=true->y.isExpr=true->StmtSh (.mk k 0 [] [x,y])
 | swap {x y:Nd}:x.isPlace=true->y.isPlace=true->StmtSh (.mk 43 0 [] [x,y])
 | stack {k:Int} {s:lB} {x:Nd}:(k=44\/k=45)->Cl s=true->x.isPlace=true->StmtSh (.mk k 0 s [x])
 | tape {k:Int} {x:Nd}:(k=46\/k=47\/k=48\/k=49)->x.isPlace=true->StmtSh (.mk k 0 [] [x])
 | call {k:Int} {s:lB} {l:List Nd}:(k=50\/k=51)->Cl s=true->l.length<=8->l.all Nd.isVar=true->StmtSh (.mk k 0 s l)
 | branch {k:Int} {x y z u:Nd}:(k=52\/k=53)->x.isExpr=true->y.isBlock=true->z.isBlock=true->u.isExpr=true->StmtSh (.mk k 0 [] [x,y,z,u])
 | local_ {s:lB} {x y z:Nd}:Cl s=true->x.isExpr=true->y.isBlock=true->z.isExpr=true->StmtSh (.mk 54 0 s [x,y,z])
 | lstack {s:lB} {x:Nd}:Cl s=true->x.isBlock=true->StmtSh (.mk 55 0 s [x])
def Cg {t:Nd} (h:t.isStmt=true):StmtSh t:=by
 obtain ⟨k,n,s,l⟩:=t;unfold mV at h;by_cases N:k=40\/k=41\/k=42\/k=56
 . rw [AT N] at h;simp only [gD,plain,beq_iff_eq,jS] at h;obtain ⟨⟨rfl,rfl⟩,G⟩:=h;split at G
   . simp only [gD] at G;exact .upd N G.1 G.2
   . cases G
 rw [AC N] at h;by_cases O:k=43
 . rw [AT O] at h;simp only [gD,plain,beq_iff_eq,jS] at h;obtain ⟨⟨rfl,rfl⟩,G⟩:=h;subst O;split at G
   . simp only [gD] at G;exact .swap G.1 G.2
   . cases G
 rw [AC O] at h;by_cases U:k=44\/k=45
 . rw [AT U] at h;simp only [gD,named,beq_iff_eq] at h;obtain ⟨⟨rfl,M⟩,G⟩:=h;split at G
   . exact .stack U M G
   . cases G
 rw [AC U] at h;by_cases c4:46<=k/\k<=49
 . rw [AT c4] at h;simp only [gD,plain,beq_iff_eq,jS] at h;obtain ⟨⟨rfl,rfl⟩,G⟩:=h;split at G
   . exact .tape Ab G
   . cases G
 rw [AC c4] at h;by_cases V:k=50\/k=51
 . rw [AT V] at h;simp only [gD,named,beq_iff_eq,decide_eq_true_eq] at h;obtain ⟨⟨⟨rfl,M⟩,h1⟩,G⟩:=h;exact .call V M h1 G
 rw [AC V] at h;by_cases X:k=52\/k=53
 . rw [AT X] at h;simp only [gD,plain,beq_iff_eq,jS] at h;obtain ⟨⟨rfl,rfl⟩,G⟩:=h;split at G
   . simp only [gD] at G;exact .branch X G.1.1.1 G.1.1.2 G.1.2 G.2
   . cases G
 rw [AC X] at h;by_cases Y:k=54
 . rw [AT Y] at h;simp only [gD,named,beq_iff_eq] at h;obtain ⟨⟨rfl,M⟩,G⟩:=h;subst Y;split at G
   . simp only [gD] at G;exact .local_ M G.1.1 G.1.2 G.2
   . cases G
 rw [AC Y] at h;by_cases Z:k=55
 . rw [AT Z] at h;simp only [gD,named,beq_iff_eq] at h;obtain ⟨⟨rfl,M⟩,G⟩:=h;subst Z;split at G
   . exact .lstack M G
   . cases G
 rw [AC Z] at h;cases h
def DT {t:Nd} (h:StmtSh t):t.isStmt=true:=by
 cases h with
 | upd M G N=>unfold mV;rw [AT M];simp [plain,G,N]
 | swap G N=>unfold mV;simp [plain,G,N]
 | stack M O G=>rcases M with rfl|rfl<;>(unfold mV;simp [named,O,G])
 | tape M G=>rcases M with rfl|rfl|rfl|rfl<;>(unfold mV;simp [plain,G])
 | call M O V X=>rcases M with rfl|rfl<;>(unfold mV;simp only [named,O,X];simp [V])
 | branch M G N U Y=>rcases M with rfl|rfl<;>(unfold mV;simp [plain,G,N,U,Y])
 | local_ O G N U=>unfold mV;simp [named,O,G,N,U]
 | lstack O G=>unfold mV;simp [named,O,G]
def Hw {t:Nd} (h:t.isExpr=true):1<=t.kind/\t.kind<=23:=by
 obtain ⟨k,n,s,l⟩:=t;unfold mK at h;simp only [mY];by_cases G:k=1
 . omega
 rw [AC G] at h;by_cases M:k=2\/k=4\/k=5
 . omega
 rw [AC M] at h;by_cases N:k=3
 . omega
 rw [AC N] at h;by_cases O:k=6\/k=7
 . omega
 rw [AC O] at h;by_cases U:8<=k/\k<=23
 . omega
 rw [AC U] at h;cases h
def Be {t:Nd} (h:t.isPlace=true):t.isExpr=true:=by
 simp only [mP,gD] at h;exact h.2
def Gw {t:Nd} (h:t.isVar=true):t.isExpr=true:=by
 simp only [Nd.isVar,gD] at h;exact h.2
def Nf {t:Nd} (h:t.isStmt=true):40<=t.kind/\t.kind<=56:=by
 cases Cg h<;>simp only [mY]<;>omega
def DU {t:Nd} (h:t.isBlock=true):t = .mk 57 0 [] t.kids/\DP t.kids=true:=by
 obtain ⟨k,n,s,l⟩:=t;unfold mL at h;simp only [gD,plain,beq_iff_eq,jS] at h;obtain ⟨⟨rfl,rfl,rfl⟩,G⟩:=h;exact ⟨rfl,G⟩
def rowStmt_iff:∀ {l:List Nd},DP l=true ↔ ∀x∈l,x.isStmt=true
 | []=>by simp [DP]
 | t::r=>by simp [DP,rowStmt_iff (l:=r)]
structure Tok where
 kind:Int
 text:lB
 pos:Int
section
variable (ts:List Tok) (n:Int)
end
mutual
def Nd.depth:Nd->Int
 | .mk _ _ _ l=>Bs l+1
def Bs:List Nd->Int
 | []=>0
 | t::r=>max t.depth (Bs r)
end
section
variable (ts:List Tok) (n:Int)
end
def BS:Nd:=.mk 0 0 [] []
def Cm (k:Int):Int:=
 if k=40 then 41 else if k=41 then 40 else if k=44 then 45 else if k=45 then 44 else if k=46 then 47 else if k=47 then 46
 else if k=48 then 49 else if k=49 then 48 else if k=50 then 51 else if k=51 then 50 else k
def F9 (l:List Nd):List Nd:=(l.set 0 (l.getD (l.length-1) (.mk 0 0 [] []))).set (l.length-1) (l.getD 0 (.mk 0 0 [] []))
mutual
def Nd.inv (q:Bool):Nd->Nd
 | .mk k n s l=>
  if k=57 then .mk k n s (Cd q l).reverse
  else if k=52\/k=53\/k=54 then .mk k n s (F9 (Dm q l))
  else if k=50\/k=51 then .mk (if q then k else Cm k) n s (Dm q l)
  else .mk (Cm k) n s (Dm q l)
def Cd (q:Bool):List Nd->List Nd
 | []=>[]
 | t::r=>t.inv q::Cd q r
def Dm (q:Bool):List Nd->List Nd
 | []=>[]
 | t::r=>(if t.kind=57 then t.inv q else t)::Dm q r
end
def Lq (q:Bool):∀l:List Nd,(Cd q l).length=l.length
 | []=>rfl
 | t::r=>by simp only [Cd,gH,Lq q r]
def Lr (q:Bool):∀l m:List Nd,Cd q (l++m)=Cd q l++Cd q m
 | [],m=>rfl
 | t::r,m=>by simp only [Cd,jX,Lr q r m]
def Ls (q:Bool):∀l:List Nd,Cd q l.reverse=(Cd q l).reverse
 | []=>rfl
 | t::r=>by simp only [Cd,kY,Lr,Ls q r]
def Di (q:Bool) {t:Nd} (h:t.isExpr=true):(if t.kind=57 then t.inv q else t)=t:=by
 have:=Hw h;rw [AC Ab]
def Gx (q:Bool) {t:Nd} (h:t.isBlock=true):(if t.kind=57 then t.inv q else t)=t.inv q:=by
 obtain ⟨e,-⟩:=DU h;rw [e];rfl
def Ng (q:Bool):∀l:List Nd,l.all Nd.isVar=true->Dm q l=l
 | [],_=>rfl
 | t::r,h=>by
  simp only [lF,gD] at h;simp only [Dm,Di q (Gw h.1),Ng q r h.2]
def Z8 (x y z:Nd):F9 [x,y,z]=[z,y,x]:=rfl
def Z9 (x y z u:Nd):F9 [x,y,z,u]=[u,y,z,x]:=rfl
section
variable (q:Bool)
def SN {k:Int} {x y:Nd} (hk:k=40\/k=41\/k=42\/k=56) (hx:x.isExpr=true) (hy:y.isExpr=true):(Nd.mk k 0 [] [x,y]).inv q = .mk (Cm k) 0 [] [x,y]:=by
 conv=>lhs;unfold Nd.inv
 rw [AC Ab,AC Ab,AC Ab];simp only [Dm,Di q hx,Di q hy]
def Pm {x y:Nd} (hx:x.isExpr=true) (hy:y.isExpr=true):(Nd.mk 43 0 [] [x,y]).inv q = .mk 43 0 [] [x,y]:=by
 conv=>lhs;unfold Nd.inv
 rw [AC Ab,AC Ab,AC Ab];simp only [Dm,Di q hx,Di q hy];rfl
def Lb {k:Int} {s:lB} {x:Nd} (hk:44<=k/\k<=49) (hx:x.isExpr=true):(Nd.mk k 0 s [x]).inv q = .mk (Cm k) 0 s [x]:=by
 conv=>lhs;unfold Nd.inv
 rw [AC Ab,AC Ab,AC Ab];simp only [Dm,Di q hx]
def Po {k:Int} {s:lB} {l:List Nd} (hk:k=50\/k=51) (hl:l.all Nd.isVar=true):(Nd.mk k 0 s l).inv q = .mk (if q then k else Cm k) 0 s l:=by
 conv=>lhs;unfold Nd.inv
 rw [AC Ab,AC Ab,AT hk,Ng q l hl]
def Lt {k:Int} {x y z u:Nd} (hk:k=52\/k=53) (hx:x.isExpr=true) (hy:y.isBlock=true) (hz:z.isBlock=true) (hu:u.isExpr=true):(Nd.mk k 0 [] [x,y,z,u]).inv q = .mk k 0 [] [u,y.inv q,z.inv q,x]:=by
 conv=>lhs;unfold Nd.inv
 rw [AC Ab,AT Ab];simp only [Dm,Di q hx,Di q hu,Gx q hy,Gx q hz,Z9]
def Nh {s:lB} {x y z:Nd} (hx:x.isExpr=true) (hy:y.isBlock=true) (hz:z.isExpr=true):(Nd.mk 54 0 s [x,y,z]).inv q = .mk 54 0 s [z,y.inv q,x]:=by
 conv=>lhs;unfold Nd.inv
 rw [AC Ab,AT Ab];simp only [Dm,Di q hx,Di q hz,Gx q hy,Z8]
def Lu {s:lB} {x:Nd} (hx:x.isBlock=true):(Nd.mk 55 0 s [x]).inv q = .mk 55 0 s [x.inv q]:=by
 conv=>lhs;unfold Nd.inv
 rw [AC Ab,AC Ab,AC Ab];simp only [Dm,Gx q hx];rfl
def Ff (l:List Nd):(Nd.mk 57 0 [] l).inv q = .mk 57 0 [] (Cd q l).reverse:=by
 conv=>lhs;unfold Nd.inv
 rw [AT rfl]
end
def Hx {k:Int}:Cm (Cm k)=k:=by
 unfold Cm;by_cases G:k=40;· subst G;rfl
 by_cases M:k=41;· subst M;rfl
 by_cases N:k=44;· subst N;rfl
 by_cases O:k=45;· subst O;rfl
 by_cases U:k=46;· subst U;rfl
 by_cases V:k=47;· subst V;rfl
 by_cases X:k=48;· subst X;rfl
 by_cases Y:k=49;· subst Y;rfl
 by_cases Z:k=50;· subst Z;rfl
 by_cases h:k=51;· subst h;rfl
 simp only [G,M,N,O,U,V,X,Y,Z,h,if_false]
def Pp {k:Int} (h:k=40\/k=41\/k=42\/k=56):Cm k=40\/Cm k=41\/Cm k=42\/Cm k=56:=by rcases h with rfl|rfl|rfl|rfl<;>decide
def TO {k:Int} (h:k=50\/k=51):Cm k=50\/Cm k=51:=by rcases h with rfl|rfl<;>decide
def Lv {k:Int} (h:k=44\/k=45):Cm k=44\/Cm k=45:=by rcases h with rfl|rfl<;>decide
def Ni {k:Int} (h:k=46\/k=47\/k=48\/k=49):Cm k=46\/Cm k=47\/Cm k=48\/Cm k=49:=by rcases h with rfl|rfl|rfl|rfl<;>decide
structure InvOk (q:Bool) (t:Nd):Prop where
 st:t.isStmt=true->(t.inv q).isStmt=true
 bl:t.isBlock=true->(t.inv q).isBlock=true
 back:(t.inv q).inv q=t
 size:(t.inv q).size=t.size
 depth:(t.inv q).depth=t.depth
 wf:t.wf->(t.inv q).wf
def Kw:∀l m:List Nd,AY (l++m)=AY l+AY m
 | [],m=>by simp [AY]
 | t::r,m=>by simp only [AY,jX,Kw r m];omega
def Kx:∀l:List Nd,AY l.reverse=AY l
 | []=>rfl
 | t::r=>by simp only [kY,Kw,Kx r,AY];omega
def Gy:∀l:List Nd,0<=Bs l
 | []=>by simp [Bs]
 | t::r=>by have:=Gy r;simp only [Bs];omega
def Jh:∀l m:List Nd,Bs (l++m)=max (Bs l) (Bs m)
 | [],m=>by have:=Gy m;simp only [Bs,kv];omega
 | t::r,m=>by simp only [Bs,jX,Jh r m];omega
def Ji:∀l:List Nd,Bs l.reverse=Bs l
 | []=>rfl
 | t::r=>by have:=Gy r;simp only [kY,Jh,Ji r,Bs];omega
def rowWf_iff:∀ {l:List Nd},CO l ↔ ∀x∈l,x.wf
 | []=>by simp [CO]
 | t::r=>by simp [CO,rowWf_iff (l:=r)]
def Gz:∀ {l:List Nd} {x:Nd},x∈l->x.size<=AY l
 | t::r,x,h=>by
  simp only [AY];rcases gT.1 h with rfl|h
  . omega
  . have:=Gz h;omega
def VA (q:Bool):∀l:List Nd,(∀t∈l,InvOk q t)->(∀t∈l,t.isStmt=true)->(∀x∈Cd q l,x.isStmt=true)/\Cd q (Cd q l)=l/\AY (Cd q l)=AY l/\Bs (Cd q l)=Bs l/\(CO l->CO (Cd q l))
 | [],_,_=>⟨by simp [Cd],rfl,rfl,rfl,λh=>h⟩
 | t::r,h,O=>by
  have M:=h t AQ;obtain ⟨U,V,i3,X,Y⟩:=VA q r (λx G=>h x (by simp [G])) (λx G=>O x (by simp [G]));refine ⟨λx G=>?_,?_,?_,?_,λN=>?_⟩
  . simp only [Cd,gT] at G;rcases G with rfl|G
    . exact M.st (O t AQ)
    . exact U x G
  . simp only [Cd,M.back,V]
  . simp only [Cd,AY,M.size,i3]
  . simp only [Cd,Bs,M.depth,X]
  . simp only [Cd,CO] at N ⊢;exact ⟨M.wf N.1,Y N.2⟩
def IJ {k:Int} (h:0<=k) (G:k<=255):0<=Cm k/\Cm k<=255:=by
 unfold Cm
 repeat' split
 all_goals omega
def aA (q:Bool) (N:Nat):∀t:Nd,t.size<N->t.isStmt=true\/t.isBlock=true->InvOk q t:=by
 induction N with
 | zero=>intro t h;omega
 | succ N ih=>
  intro t hN h;by_cases X:t.isStmt=true
  . have ac:∀ {u:Nd},u.isStmt=true -> ¬u.isBlock=true:=λ{u} hu hb=>by
     have h1:=Nf hu;obtain ⟨e,-⟩:=DU hb;rw [e] at h1;simp only [mY] at h1;omega
    have mk:∀u v:Nd,u.isStmt=true->u.inv q=v->v.isStmt=true->v.inv q=u->v.size=u.size->v.depth=u.depth->(u.wf->v.wf)->InvOk q u:=λu v hu e h1 h2 h3 h4 h5=>⟨λ_=>by rw [e];exact h1,λhb=>absurd hb (ac hu),by rw [e,h2],by rw [e,h3],by rw [e,h4],by rw [e];exact h5⟩
    cases Cg X with
    | @upd k x y O G U=>
     have Z:=Be G;refine mk _ _ X (SN q O Z U) (DT (.upd (Pp O) G U)) (by rw [SN q (Pp O) Z U,Hx]) rfl rfl (λM=>?_);have:=IJ M.1 M.2.1;exact ⟨this.1,this.2,M.2.2⟩
    | @swap x y G U=>
     exact mk _ _ X (Pm q (Be G) (Be U)) X (Pm q (Be G) (Be U)) rfl rfl (λM=>M)
    | @stack k s x O hn G=>
     have Z:=Be G;refine mk _ _ X (Lb q Ab Z) (DT (.stack (Lv O) hn G)) (by rw [Lb q (by have:=Lv O;omega) Z,Hx]) rfl rfl (λM=>?_);have:=IJ M.1 M.2.1;exact ⟨this.1,this.2,M.2.2⟩
    | @tape k x O G=>
     have Z:=Be G;refine mk _ _ X (Lb q Ab Z) (DT (.tape (Ni O) G)) (by rw [Lb q (by have:=Ni O;omega) Z,Hx]) rfl rfl (λM=>?_);have:=IJ M.1 M.2.1;exact ⟨this.1,this.2,M.2.2⟩
    | @call k s l O hn hl ha=>
     have aa:(if q then k else Cm k)=50\/(if q then k else Cm k)=51:=by
      cases q
      . exact TO O
      . exact O
     refine mk _ _ X (Po q O ha) (DT (.call aa hn hl ha)) ?_ rfl rfl (λM=>?_)
     . rw [Po q aa ha];cases q
       . simp only [iS,if_false,Hx]
       . simp
     . exact ⟨Ab,Ab,M.2.2⟩
    | @branch k x y z u O G U hz hu=>
     simp only [mF,AY] at hN;have V:=ih y Ab (gB U);have iz:=ih z Ab (gB hz);refine mk _ _ X (Lt q O G U hz hu) (DT (.branch O hu (V.bl U) (iz.bl hz) G)) (by rw [Lt q O hu (V.bl U) (iz.bl hz) G,V.back,iz.back]) ?_ ?_ (λM=>?_)
     . simp only [mF,AY,V.size,iz.size];omega
     . simp only [Nd.depth,Bs,V.depth,iz.depth];omega
     . obtain ⟨w1,w2,w3,w4,w5,w6,Y⟩:=M;exact ⟨w1,w2,w3,w4,w5,w6,Y.2.2.2.1,V.wf Y.2.1,iz.wf Y.2.2.1,Y.1,trivial⟩
    | @local_ s x y z hn G U hz=>
     simp only [mF,AY] at hN;have V:=ih y Ab (gB U);refine mk _ _ X (Nh q G U hz) (DT (.local_ hn hz (V.bl U) G)) (by rw [Nh q hz (V.bl U) G,V.back]) ?_ ?_ (λM=>?_)
     . simp only [mF,AY,V.size];omega
     . simp only [Nd.depth,Bs,V.depth];omega
     . obtain ⟨w1,w2,w3,w4,w5,w6,Y⟩:=M;exact ⟨w1,w2,w3,w4,w5,w6,Y.2.2.1,V.wf Y.2.1,Y.1,trivial⟩
    | @lstack s x hn G=>
     simp only [mF,AY] at hN;have ix:=ih x Ab (gB G);refine mk _ _ X (Lu q G) (DT (.lstack hn (ix.bl G))) (by rw [Lu q (ix.bl G),ix.back]) ?_ ?_ (λM=>?_)
     . simp only [mF,AY,ix.size]
     . simp only [Nd.depth,Bs,ix.depth]
     . obtain ⟨w1,w2,w3,w4,w5,w6,Y⟩:=M;exact ⟨w1,w2,w3,w4,w5,w6,ix.wf Y.1,trivial⟩
  . have hb:t.isBlock=true:=h.resolve_left X;obtain ⟨e,hr⟩:=DU hb;obtain ⟨k,n,s,l⟩:=t;simp only [nb,Nd.mk.injEq,and_true] at e;obtain ⟨rfl,rfl,rfl⟩:=e;simp only [nb] at hr;simp only [mF] at hN;have ab:=rowStmt_iff.1 hr;obtain ⟨i1,i2,i3,i4,i5⟩:=VA q l (λt ht=>ih t (by have:=Gz ht;omega) (gA (ab t ht))) ab;refine ⟨λh=>absurd h X,λ_=>?_,?_,?_,?_,λM=>?_⟩
    . rw [Ff];unfold mL;rw [rowStmt_iff.2 (λx G=>i1 x (List.mem_reverse.1 G))];rfl
    . rw [Ff,Ff,Ls,List.reverse_reverse,i2]
    . rw [Ff];simp only [mF,Kx,i3]
    . rw [Ff];simp only [Nd.depth,Ji,i4]
    . rw [Ff];obtain ⟨w1,w2,w3,w4,w5,w6,Y⟩:=M;exact ⟨w1,w2,w3,w4,w5,by rw [List.length_reverse,Lq];exact w6,rowWf_iff.2 (λx G=>rowWf_iff.1 (i5 Y) x (List.mem_reverse.1 G))⟩
def A8 (at_:lB->Option (List Int)):Nd->Int×Int
 | .mk k n s l=>
  if k=1 then (n,0)
  else if k=2 then match at_ s with
   | none=>(0,6)
   | some c=>if c.length=1 then (c.getD 0 0,0) else (0,7)
  else if k=3 then match at_ s with
   | none=>(0,6)
   | some c=>match l with
    | [x]=>if (A8 at_ x).2≠0 then (0,(A8 at_ x).2) else if (A8 at_ x).1<0\/(c.length:Int)<=(A8 at_ x).1 then (0,12) else (c.getD (A8 at_ x).1.toNat 0,0)
    | _=>(0,0)
  else if k=4 then match at_ s with
   | none=>(0,6)
   | some c=>if c.length=0 then (0,13) else (c.getD (c.length-1) 0,0)
  else if k=5 then match at_ s with
   | none=>(0,6)
   | some c=>(c.length,0)
  else match l with
   | [x]=>if (A8 at_ x).2≠0 then (0,(A8 at_ x).2) else Em k (A8 at_ x).1
   | [x,y]=>if (A8 at_ x).2≠0 then (0,(A8 at_ x).2) else if (A8 at_ y).2≠0 then (0,(A8 at_ y).2) else El k (A8 at_ x).1 (A8 at_ y).1
   | _=>(0,0)
def Bp (at_:lB->Option (List Int)) (t:Nd):Int×Int:=
 if t.kind=2 then (0,0) else match t.kids with
 | x::_=>A8 at_ x
 | []=>(0,0)
def Cu (s:lB):List VD->Option Nat
 | []=>none
 | v::r=>match Cu s r with
  | some i=>some (i+1)
  | none=>if v.name=s then some 0 else none
structure Frm where
 vars:List VD
 cells:List Nat
 locals:Nat
structure Stp where
 heap:List (List Int)
 base:Frm
 calls:List Frm
 tin:List Int
 tout:List Int
def Stp.cur (st:Stp):Frm:=st.calls.getLast?.getD st.base
def Stp.setCur (st:Stp) (f:Frm):Stp:=if st.calls=[] then { st with base:=f } else { st with calls:=st.calls.dropLast++[f] }
def Stp.items (st:Stp) (c:Nat):List Int:=st.heap.getD c []
def Frm.cell (f:Frm) (s:lB):Option Nat:=(Cu s f.vars).bind (f.cells[·]?)
def Stp.cellD (st:Stp) (s:lB):Nat:=(st.cur.cell s).getD 0
def Stp.look (st:Stp) (s:lB):Option (List Int):=(st.cur.cell s).map st.items
def Stp.all (st:Stp) (c:Nat) (xs:List Int):Stp:={ st with heap:=st.heap.set c xs }
def Stp.put (st:Stp) (c i:Nat) (v:Int):Stp:=st.all c ((st.items c).set i v)
def CT (k:Int):Int:=if k=2 then 1 else if k=3 then 2 else if k=4\/k=5\/k=44\/k=45 then 3 else 0
mutual
def Nd.bad (v:List VD):Nd->Int
 | .mk k _ s l=>if CT k≠0/\FA v s (CT k)≠0 then FA v s (CT k) else EV v l
def EV (v:List VD):List Nd->Int
 | []=>0
 | t::r=>if t.bad v≠0 then t.bad v else EV v r
end
def VB (k x y:Int):Int:=if k=40 then Lo (x+y) else if k=41 then Lo (x-y) else Of .xor x y
def Stp.transfer (st:Stp) (k:Int) (c i:Nat):Int×Stp:=
 if k=46 then match st.tin with
  | []=>(17,st)
  | v::r=>if (st.items c).getD i 0≠0 then (14,st) else (0,{ st.put c i v with tin:=r })
 else if k=47 then if 4096<=st.tin.length then (5,st) else (0,{ st.put c i 0 with tin:=(st.items c).getD i 0::st.tin })
 else if k=48 then if 4096<=st.tout.length then (5,st) else (0,{ st.put c i 0 with tout:=st.tout++[(st.items c).getD i 0] })
 else match st.tout.getLast? with
  | none=>(17,st)
  | some v=>if (st.items c).getD i 0≠0 then (14,st) else (0,{ st.put c i v with tout:=st.tout.dropLast })
def Stp.move (st:Stp) (k:Int) (c i d:Nat):Int×Stp:=
 if k=44 then if 1000<=(st.items d).length then (5,st) else (0,(st.all d (st.items d++[(st.items c).getD i 0])).put c i 0)
 else match (st.items d).getLast? with
  | none=>(13,st)
  | some v=>if (st.items c).getD i 0≠0 then (14,st) else (0,(st.put c i v).all d (st.items d).dropLast)
def Stp.exec (st:Stp) (k:Int) (s:lB) (l:List Nd):Int×Stp:=
 let x:=l.getD 0 (.mk 0 0 [] [])
 let y:=l.getD 1 (.mk 0 0 [] [])
 let a:=Bp st.look x
 let r:=if k=43 then Bp st.look y else if 40<=k/\k<=42 then A8 st.look y else (0,0)
 let c:=st.cellD x.name
 if a.2≠0 then (a.2,st) else if r.2≠0 then (r.2,st) else if a.1<0\/((st.items c).length:Int)<=a.1 then (12,st)
 else if 40<=k/\k<=42 then (0,st.put c a.1.toNat (VB k ((st.items c).getD a.1.toNat 0) r.1))
 else if k=43 then
  if r.1<0\/((st.items (st.cellD y.name)).length:Int)<=r.1 then (12,st)
  else (0,(st.put c a.1.toNat ((st.items (st.cellD y.name)).getD r.1.toNat 0)).put (st.cellD y.name) r.1.toNat ((st.items c).getD a.1.toNat 0))
 else if k=44\/k=45 then st.move k c a.1.toNat (st.cellD s)
 else st.transfer k c a.1.toNat
def Stp.run1 (st:Stp) (k n:Int) (s:lB) (l:List Nd):Int×Stp:=
 if k=56 then (9,st) else if (Nd.mk k n s l).bad st.cur.vars≠0 then ((Nd.mk k n s l).bad st.cur.vars,st) else st.exec k s l
def Stp.opens (st:Stp) (v:VD) (x:Int):Int×Stp:=
 if (Cu v.name st.cur.vars).isSome then (22,st)
 else (0,{ st.setCur ⟨st.cur.vars++[v],st.cur.cells++[st.heap.length],st.cur.locals+1⟩ with heap:=st.heap++[if v.kind=1 then [x] else []] })
def Stp.closes (st:Stp) (s:lB) (x:Int):Int×Stp:=
 let f:=st.cur
 let v:=f.vars.getD (f.vars.length-1) ⟨[],0,0⟩
 let xs:=st.items (f.cells.getD (f.vars.length-1) 0)
 if f.locals=0\/v.name≠s then (6,st)
 else if v.kind=1/\xs.getD 0 0≠x\/v.kind=3/\0<xs.length then (16,st)
 else (0,st.setCur ⟨f.vars.dropLast,f.cells.dropLast,f.locals-1⟩)
def DJ (f:Frm):List VD->List lB->Int×List Nat
 | [],_=>(0,[])
 | _::_,[]=>(0,[])
 | v::r,s::q=>match Cu s f.vars with
  | none=>(6,[])
  | some i=>if (f.vars.getD i ⟨[],0,0⟩).kind≠v.kind\/(f.vars.getD i ⟨[],0,0⟩).len≠v.len then (7,[])
   else ((DJ f r q).1,f.cells.getD i 0::(DJ f r q).2)
def Stp.enters (st:Stp) (ps:List VD) (args:List lB):Int×Stp:=
 if ps.length≠args.length then (7,st)
 else if (DJ st.cur ps args).1≠0 then ((DJ st.cur ps args).1,st)
 else if 100<=st.calls.length then (19,st)
 else (0,{ st with calls:=st.calls++[⟨ps,(DJ st.cur ps args).2,0⟩] })
def Stp.leaves (st:Stp):Int×Stp:=if st.calls=[]\/0<st.cur.locals then (20,st) else (0,{ st with calls:=st.calls.dropLast })
structure Rn where
 st:Stp
 rem:Nat
def Bn (r:Rn):Except Int Rn:=if r.rem=0 then .error 18 else .ok ⟨r.st,r.rem-1⟩
def C4 (f:Stp->Int×Stp) (r:Rn):Except Int Rn:=if (f r.st).1≠0 then .error (f r.st).1 else .ok ⟨(f r.st).2,r.rem⟩
def B5 (t:Nd) (r:Rn):Except Int Int:=if (A8 r.st.look t).2≠0 then .error (A8 r.st.look t).2 else .ok (A8 r.st.look t).1
def BY (t:Nd) (r:Rn):Except Int (Bool×Rn):=(Bn r).bind λr=>(B5 t r).bind λv=>.ok (decide (v≠0),r)
def BI (t:Nd) (want:Bool) (r:Rn):Except Int Rn:=(BY t r).bind λp=>if p.1≠want then .error 15 else .ok p.2
def Ga (f:Nd->Rn->Except Int Rn):List Nd->Rn->Except Int Rn
 | [],r=>.ok r
 | t::l,r=>(f t r).bind (Ga f l)
def Cz (b1 b2:Rn->Except Int Rn) (test entry:Nd):Nat->Rn->Except Int Rn
 | 0,_=>.error (-1)
 | m+1,r=>(b1 r).bind λr=>(BY test r).bind λp=>if p.1 then .ok p.2 else (b2 p.2).bind λr=>(BI entry false r).bind (Cz b1 b2 test entry m)
def A0 (f:Bool->Nd->Rn->Except Int Rn) (back:Bool) (t:Nd) (r:Rn):Except Int Rn:=Ga (f back) (if back then t.kids.reverse else t.kids) r
def BZ (l:List Nd) (i:Nat):Nd:=l.getD i (.mk 0 0 [] [])
def AI (ps:List PD):Nat->Bool->Nd->Rn->Except Int Rn
 | 0,_,_,_=>.error (-1)
 | d+1,back,.mk k n s l,r=>
  let first:=if back then BZ l (l.length-1) else BZ l 0
  let last:=if back then BZ l 0 else BZ l (l.length-1)
  let blk:=A0 (AI ps d)
  if k=52 then (BY first r).bind λp=>(blk back (if p.1 then BZ l 1 else BZ l 2) p.2).bind (BI last p.1)
  else if k=53 then (BI first true r).bind (Cz (blk back (BZ l 1)) (blk back (BZ l 2)) last first d)
  else if k=54 then (Bn r).bind λr=>(B5 first r).bind λv=>(C4 (·.opens ⟨s,1,0⟩ v) r).bind λr=>(blk back (BZ l 1) r).bind λr=>
   (Bn r).bind λr=>(B5 last r).bind λv=>C4 (·.closes s v) r
  else if k=55 then (Bn r).bind λr=>(C4 (·.opens ⟨s,3,0⟩ 0) r).bind λr=>(blk back (BZ l 0) r).bind λr=>(Bn r).bind (C4 (·.closes s 0))
  else if k=50\/k=51 then
   let p:=ps.getD ((CD ps s).getD 0) ⟨[],[],.mk 0 0 [] []⟩
   (Bn r).bind λr=>(C4 (·.enters p.params (l.map mQ)) r).bind λr=>(blk (back != decide (k=51)) p.body r).bind λr=>(Bn r).bind (C4 (·.leaves))
  else (Bn r).bind (C4 (·.run1 (if back then Cm k else k) n s l))
open Go.RowKit
variable {w w':wD} {e n B sz t g:Nat} {S:nP} {a:oA} {P:Program} {l:List VD} {v:Value} {cs:lV} {x:Operand} {α:Type}
structure Shape (α:Type) where
 sz:Nat
 rep:wD->(nP)->α->lV->Prop
 len:∀ {w S x cs},rep w S x cs->cs.length=sz
 one:∀ {w S x cs},rep w S x cs->cs.all mG=true
 mono:∀ {w w':wD} {S S' x cs},rep w S x cs->(∀b,S b->S' b)->(∀b o v,S b->w.cell? ⟨b,o,none⟩=some v->w'.cell? ⟨b,o,none⟩=some v)->rep w' S' x cs
 lt:∀ {w S x cs},rep w S x cs->rep w (λb=>S b/\b<w.heap.size) x cs
structure OwnL {α:Type} (sh:Shape α) (w:wD) (B:Nat) (e:TypeId) (v:Value) (xs:List α):Prop where
 ex:∃css:List lV,Own w B e sh.sz v xs.length css.flatten/\css.length=xs.length /\ ∀(i:Nat) (x:α) (cs:lV),xs[i]? = some x->css[i]? = some cs->sh.rep w (λb=>B<=b/\v.ownBlock≠some b) x cs
def OwnL.nil {sh:Shape α}:OwnL sh w B e (.slice none 0 0) []:=⟨⟨[],nm,rfl,AQ⟩⟩
def Own.ge {b:Nat} (h:Own w b e sz v n cs) {k:Nat} (G:v.ownBlock=some k):b<=k:=(h.blk G).1
def OwnL.ge {α:Type} {sh:Shape α} {w:wD} {B e:Nat} {v:Value} {xs:List α} (h:OwnL sh w B e v xs) {k:Nat} (G:v.ownBlock=some k):B<=k:=by
 obtain ⟨M,N,-⟩:=h.ex;exact N.ge G
def OwnL.ext {α:Type} {sh:Shape α} {w w':wD} {B e:Nat} {v:Value} {xs:List α} (h:OwnL sh w B e v xs) (x:Ext w w'):OwnL sh w' B e v xs:=by
 obtain ⟨G,M,N,O⟩:=h.ex;exact ⟨G,M.ext x,N,λi y cs U V=>sh.mono (O i y cs U V) aFh (λb o u _ X=>x.keep X)⟩
instance {sh:Shape α} {xs:List α}:LfE w w' (OwnL sh w B e v xs) (OwnL sh w' B e v xs):=⟨λx h=>Bk.OwnL.ext h x⟩
def OwnL.fr {α:Type} {sh:Shape α} {S:nP} {w w':wD} {B e:Nat} {v:Value} {xs:List α} (h:OwnL sh w B e v xs) (x:Fr S w w') (N:∀k,S k->k<B):OwnL sh w' B e v xs:=by
 obtain ⟨G,O,U,V⟩:=h.ex;exact ⟨G,O.fr x (λk X M=>by have:=O.ge X;have:=N k M;omega),U,λi y cs Y Z=>sh.mono (V i y cs Y Z) aFh (λb o u hb hu=>x.keep (λM=>by have:=N b M;omega) hu)⟩
instance {sh:Shape α} {xs:List α}:LfF S w w' (OwnL sh w B e v xs) (∀k,S k->k<B) (OwnL sh w' B e v xs):=⟨λx s h=>Bk.OwnL.fr h x s⟩
def D7 {G:List (List α)} (h:∀cs∈G,cs.length=n):G.flatten.length=G.length*n:=by
 induction G with
 | nil=>simp
 | cons c r M=>
  simp only [kG,gR,gH,M (λx N=>h x (jB _ N)),h c jH,kE];omega
def cP {α:Type} (sh:Shape α) (w:wD) (B:Nat) (e:TypeId) (xs:List α):Option Value->wD->Prop
 | some v',w'=> ∃g cap,v' = .slice (some ⟨g,0,none⟩) xs.length cap/\OwnL sh w' B e v' xs/\Fr (B <= ·) w w'
 | none,_=>False
section
variable {l:Sl} {tab:Tab} {zt:Ee} {ty:TypeId} {sh:Shape α}
def GA {y:Operand} {cap:Nat} {sE:Sk} {zs:lV} {xs:List α} {z:α} {p:Addr} (T:TabOk P tab) (Z:Cj P zt) (ht:AB tab t=some (.slice e,sz)) (hE:AB tab e=some (sE,sh.sz)) (hz:CC zt e=some zs) (hzl:zs.length=sh.sz)
 (hby:Dk P e=true) (hsz:iC 0 sh.sz=true) (hx:ev l x=some v) (hy:ev l y=some (.slice (some p) 1 cap)) (hown:OwnL sh w B e v xs) (hr:Row w p cs) (hrep:sh.rep w (λb=>B<=b/\v.ownBlock≠some b) z cs) (hlen:xs.length<=10000000000) (hB:B<=w.heap.size) :
 BG P n l (.call ⟨.builtin .append,#[x,y],#[t,t]⟩) ty w (cP sh w B e (xs++[z])):=by
 obtain ⟨css,h1,h2,h3⟩:=hown.ex;have hd:=DV (P:=P) (n:=n) (l:=l) (ty:=ty) T Z ht hE hz hzl hby hsz hx hy h1 hr (by rw [sh.len hrep];simp) (sh.one hrep) Ab Ab hB;unfold BG at hd ⊢;intro a dst pos after g next Q ha hn c;refine hd a dst pos after g next Q ha (λv' w' hG=>?_) (λw' hG=>hG.elim);obtain ⟨g1,g2,g,cap',g3,g4⟩:=hG;refine hn v' w' ⟨g,cap',by rw [g3];simp,⟨css++[cs],?_,by simp [h2],λi y ds hy hc=>?_⟩,g2.weaken (λb hb=>h1.ge hb)⟩
 . have e1:(css++[cs]).flatten=css.flatten++cs:=by simp
   have e2:(xs++[z]).length=xs.length+1:=by simp
   rw [e1,e2];exact g1
 . have key:sh.rep w (λb=>B<=b/\v.ownBlock≠some b) y ds:=by
    by_cases hi:i<xs.length
    . rw [gN hi] at hy;rw [gN Ab] at hc;exact h3 i y ds hy hc
    . have hil:i<(xs++[z]).length:=by
       rcases gQ i (xs++[z]).length with h|h
       . exact h
       . rw [gM h] at hy;cases hy
      simp only [gR,gH,iM] at hil;have hi':i=xs.length:=by omega
      subst hi';rw [gU (gP _)] at hy;rw [gU Ab] at hc;simp only [kp,gX,gE] at hy;rw [h2] at hc;simp only [kp,gX,gE] at hc;subst hy hc;exact hrep
   refine sh.mono (sh.lt key) (λb hb=>⟨hb.1.1,λe=>?_⟩) (λb o u hb hu=>g2.keep hb.1.2 hu);rw [g3] at e;simp only [kw,gE] at e;subst e;rcases g4 with h|h
   . exact hb.1.2 h
   . omega
def Ru {ops:Array Oper} {Q:Exit->Act->wD->Prop} {rest:List Oper} {d:Nat} {pos:String} {after:Array Edge} {y:Operand} {cap:Nat} {sE:Sk} {zs:lV} {xs:List α} {z:α} {p:Addr} (T:TabOk P tab) (Z:Cj P zt) (ht:AB tab t=some (.slice e,sz)) (hE:AB tab e=some (sE,sh.sz)) (hz:CC zt e=some zs) (V:zs.length=sh.sz)
 (X:Dk P e=true) (Y:iC 0 sh.sz=true) (hx:ev l x=some v) (hy:ev l y=some (.slice (some p) 1 cap)) (M:OwnL sh w B e v xs) (hr:Row w p cs) (N:sh.rep w (λb=>B<=b/\v.ownBlock≠some b) z cs) (O:xs.length<=10000000000) (hB:B<=w.heap.size) (hd:iC d n=true)
 (k:∀g G w1,OwnL sh w1 B e (.slice (some ⟨g,0,none⟩) (xs++[z]).length G) (xs++[z])->Fr (B <= ·) w w1->LW P n ops Q rest ((d,.slice (some ⟨g,0,none⟩) (xs++[z]).length G)::l) w1) :
 LW P n ops Q (⟨some d,.call ⟨.builtin .append,#[x,y],#[t,t]⟩,ty,pos,after,none⟩::rest) l w:=
 Az (GA T Z ht hE hz V X Y hx hy M hr N O hB) hd (λv w1 ⟨g,cap,h,ho,hf⟩=>by subst h;exact k g cap w1 ho hf) aFh
end
section
variable {l:Sl} {S:wD->Prop} {tab:Tab} {zt:Ee} {ty:TypeId} {ops:Array Oper} {Q:Exit->Act->wD->Prop} {rest:List Oper} {d:Nat} {pos:String} {after:Array Edge}
end
def OwnL.rows {sh:Shape α} {xs:List α} (h:OwnL sh w B e v xs) (hx:xs≠[]):∃g cap,v = .slice (some ⟨g,0,none⟩) xs.length cap/\B<=g /\ ∀(i:Nat) (x:α),xs[i]? = some x -> ∃cs,Row w ⟨g,i*sh.sz,none⟩ cs/\sh.rep w (λb=>B<=b/\b≠g) x cs:=by
 obtain ⟨G,V,h2,X⟩:=h.ex;rcases V.row with ⟨rfl,hn,-⟩|⟨g,cap,rfl,hg,Y,hr⟩
 . exact absurd (List.length_eq_zero_iff.1 hn) hx
 . refine ⟨g,cap,rfl,hg,λi x U=>?_⟩;have ae:i<xs.length:=by
    rcases gQ i xs.length with h|h
    . exact h
    . rw [gM h] at U;cases U
   have hc:G[i]? = some G[i]:=fY Ab;refine ⟨G[i],?_,sh.mono (X i x _ U hc) (λb hb=>⟨hb.1,λe=>hb.2 (by rw [Y,e])⟩) (λ_ _ _ _ h=>h)⟩;intro j u Z;have M:∀cs∈G,cs.length=sh.sz:=λcs N=>by
    obtain ⟨k,hk,rfl⟩:=List.mem_iff_getElem.1 N;exact sh.len (X k xs[k] G[k] (fY Ab) (fY hk))
   have aa:j<sh.sz:=by
    rw [<-sh.len (X i x _ U hc)];rcases gQ j G[i].length with h|h
    . exact h
    . rw [gM h] at Z;cases Z
   have O:G.flatten[i*sh.sz+j]? = some u:=by
    have ab:G=G.take i++G[i]::G.drop (i+1):=by
     have V:=(iT i G).symm;rwa [gW Ab] at V
    have ac:G.flatten=(G.take i).flatten++(G[i]++(G.drop (i+1)).flatten):=by
     refine (congrArg List.flatten ab).trans ?_;rw [lm,kG]
    have ad:(G.take i).flatten.length=i*sh.sz:=by
     rw [D7 (λcs N=>M cs (jO N)),iE];congr 1;omega
    rw [ac,gU Ab,ad,lX,gN (by rw [M _ (gK _)];exact aa)];exact Z
   have:=hr.at (i:=i*sh.sz+j) O;have e:(⟨g,i*sh.sz,none⟩:Addr).add j=⟨g,0+(i*sh.sz+j),none⟩:=by unfold jY;by_cases h0:j=0<;>simp [h0]
   rw [e];exact this
def Gb (t:Nd) (a:oA) (h:t.sits S w a):t.sits (λb=>S b/\b<w.heap.size) w a:=by
 have key:∀N:Nat,(∀(l:List Nd) (a:oA),AY l<N->rowSits S w l a->rowSits (λb=>S b/\b<w.heap.size) w l a):=by
  intro N
  induction N with
  | zero=>intro l a h;omega
  | succ N G=>
   intro l a M h;cases l with
   | nil=>simp [rowSits]
   | cons x r=>
    simp only [rowSits] at h ⊢;obtain ⟨b,o,O,c,rfl,X,U,Y,Z,h3,V,hr⟩:=h;have hb:=Ci U;simp only [AY] at M;have hx:=Nd.size_pos x;obtain ⟨k,n,s,l⟩:=x;simp only [mF] at M;refine ⟨b,o,O,c,rfl,⟨X,hb⟩,U,Y,Z,h3,?_,G r _ Ab hr⟩;simp only [m6] at V ⊢;exact G l O Ab V
 obtain ⟨k,n,s,l⟩:=t;simp only [m6] at h ⊢;exact key (AY l+1) l a Ab h
def ndShape:Shape Nd where
 sz:=4
 rep:=λw S t cs=> ∃a c,cs=t.cells a c/\t.sits S w a
 len:=λ⟨_,_,h,_⟩=>by rw [h];rfl
 one:=λ⟨_,_,h,_⟩=>by rw [h];rfl
 mono:=λ⟨a,c,h,hs⟩ hS hc=>⟨a,c,h,nh hS hc _ a hs⟩
 lt:=λ⟨a,c,h,hs⟩=>⟨a,c,h,Gb _ a hs⟩
def IK {S:nP} {w:wD} {g:Nat} (N:S g):∀(xs:List Nd) (o:Nat),(∀(i:Nat) (x:Nd),xs[i]? = some x -> ∃a c,Row w ⟨g,o+i*4,none⟩ (x.cells a c)/\x.sits S w a)->rowSits S w xs (some ⟨g,o,none⟩)
 | [],_,_=>by simp [rowSits]
 | x::r,o,h=>by
  simp only [rowSits];obtain ⟨a,c,G,M⟩:=h 0 x rfl;simp only [lK,kH] at G;refine ⟨g,o,a,c,rfl,N,G.at0 rfl,G.at (i:=1) rfl,G.at (i:=2) rfl,G.at (i:=3) rfl,M,IK N r (o+4) (λi y O=>?_)⟩;obtain ⟨a,c,G,M⟩:=h (i+1) y (by simpa using O);exact ⟨a,c,by rw [show o+4+i*4=o+(i+1)*4 from by omega];exact G,M⟩
def OwnL.sits {len cap:Nat} {xs:List Nd} (h:OwnL ndShape w B e (.slice a len cap) xs) (M:∀b,B<=b->S b):rowSits S w xs a:=by
 by_cases N:xs=[]
 . subst N;simp [rowSits]
 . obtain ⟨g,O,U,V,G⟩:=h.rows N;simp only [iF] at U;obtain ⟨rfl,-,-⟩:=U;refine IK (M g V) xs 0 (λi x X=>?_);obtain ⟨cs,Y,a,c,rfl,Z⟩:=G i x X;exact ⟨a,c,by simpa [ndShape] using Y,nh (λb hb=>M b hb.1) (λ_ _ _ _ h=>h) _ _ Z⟩
def Oi {b o:Nat} {v0 h G v3:Value} (N:w.cell? ⟨b,o,none⟩=some v0) (O:w.cell? ⟨b,o+1,none⟩=some h) (U:w.cell? ⟨b,o+2,none⟩=some G) (V:w.cell? ⟨b,o+3,none⟩=some v3):Row w ⟨b,o,none⟩ [v0,h,G,v3]:=λi v M=>by
 rcases i with _|_|_|_|i<;>simp at M<;>(subst M;simpa [jY])
def BJ {l:List Nd} (h:rowSits S w l a) (N:l≠[]):∃b o,a=some ⟨b,o,none⟩/\S b /\ ∀i t,l[i]? = some t -> ∃G c,Row w ⟨b,o+i*4,none⟩ (t.cells G c)/\t.sits S w G:=by
 cases l with
 | nil=>exact absurd rfl N
 | cons x r=>
  obtain ⟨b,o,G,c,rfl,O,-⟩:=FC h (i:=0) (t:=x) rfl;refine ⟨b,o,rfl,O,λi t U=>?_⟩;obtain ⟨b',o',G,c,M,-,V,X,Y,Z,hs⟩:=FC h U;simp only [gE,kL] at M;obtain ⟨rfl,rfl,-⟩:=M;exact ⟨G,c,Oi V X Y Z,hs⟩
def SO {k n:Int} {s:lB} {l:List Nd} (h:rowSits S w l a):(Nd.mk k n s l).sits S w a:=by simp only [m6];exact h
def OwnL.lt {sh:Shape α} {xs:List α} (h:OwnL sh w B e v xs) {k:Nat} (G:v.ownBlock=some k):k<w.heap.size:=by
 obtain ⟨M,N,-⟩:=h.ex;exact (N.blk G).2
def VC {k n:Int} {s:lB}:(Nd.mk k n s []).sits S w a:=by simp [m6,rowSits]
def Nd.sits.wide {S':nP} {t:Nd} (h:t.sits S w a) (G:∀b,S b->S' b):t.sits S' w a:=nh G (λ_ _ _ _ h=>h) t a h
section
variable {k n:Int} {s:lB} {b:Nat} {x y z u:Nd} {xa ya za ua:oA} {xc yc zc uc:Nat}
def Blk.sub {vs:lV} (h:Blk w b vs) (i m:Nat):Row w ⟨b,i,none⟩ ((vs.drop i).take m):=by
 have:=h.row.sub i m;simpa using this
end
def Yg {b o:Nat} {us vs:lV} (O:Row w ⟨b,o,none⟩ us) (U:Row w ⟨b,o+us.length,none⟩ vs):Row w ⟨b,o,none⟩ (us++vs):=λi v G=>by
 rcases gQ i us.length with M|N
 . rw [gN M] at G;exact O i v G
 . rw [gU N] at G;have h:=U.at G;have e:(⟨b,o,none⟩:Addr).add i=⟨b,o+i,none⟩:=by unfold jY;by_cases V:i=0<;>simp [V]
   rw [e,show o+i=o+us.length+(i-us.length) by omega];exact h
def JU (w:wD) (t ty e:TypeId) (i:TypeInfo) (h:P.underlying t=some (.slice e)) (G:P.info? e=some i) (g n cap c:Nat) (M:n<=cap) :
 (Builtin.append_ #[t,t] ty #[.slice (some ⟨g,0,none⟩) n cap,.slice none 0 c]).run P w = .ok (.slice (some ⟨g,0,none⟩) n cap) w:=by
 simp [Builtin.append_,AD h,Go.sizeOf,typeInfo,G,Builtin.lenOf,Builtin.firstCells,M,storeCells]
def FQ (K:Value->wD->Prop):Option Value->wD->Prop
 | some v,w=>K v w
 | none,_=>False
section
variable {l:Sl} {tab:Tab} {zt:Ee} {ty:TypeId}
end
abbrev VD.cells (v:VD):lV:=[str v.name,.int .u8 v.kind,.int .i64 v.len]
abbrev VD.val (v:VD):Value:=.agg #[str v.name,.int .u8 v.kind,.int .i64 v.len]
def eC (w:wD) (b o:Nat) (v:VD):Prop:=Row w ⟨b,o,none⟩ v.cells
def VDs (S:nP) (w:wD) (l:List VD) (a:oA):Prop:=Arr S 3 eC w l a
abbrev PD.cells (p:PD) (pa:oA) (pc:Nat) (ba:oA) (bc:Nat):lV:=[str p.name,.slice pa p.params.length pc,.int .u8 p.body.kind,.int .i64 p.body.num,str p.body.name,.slice ba p.body.kids.length bc]
def cQ (S:nP) (w:wD) (b o:Nat) (p:PD):Prop:= ∃pa pc ba bc,Row w ⟨b,o,none⟩ (p.cells pa pc ba bc)/\VDs S w p.params pa/\p.body.sits S w ba
def PDs (S:nP) (w:wD) (l:List PD) (a:oA):Prop:=Arr S 6 (cQ S) w l a
def VDs.ext (h:VDs S w l a) (x:Ext w w'):VDs S w' l a:=h.mono aFh (λ_ _ _ _ _ h=>mw h x)
instance:LfE w w' (VDs S w l a) (VDs S w' l a):=⟨λx h=>Bk.VDs.ext h x⟩
def PDs.ext {S:nP} {w w':wD} {l:List PD} {a:oA} (h:PDs S w l a) (x:Ext w w'):PDs S w' l a:=
 h.mono aFh (λ_ _ _ _ _ ⟨G,pc,ba,bc,h1,h2,h3⟩=>⟨G,pc,ba,bc,h1.ext x,h2.ext x,h3.ext x⟩)
instance {l:List PD}:LfE w w' (PDs S w l a) (PDs S w' l a):=⟨λx h=>Bk.PDs.ext h x⟩
abbrev PG.cells (g:PG) (va:oA) (vc:Nat) (pa:oA) (pc:Nat) (ma:oA) (mc:Nat):lV:=
 [.slice va g.vars.length vc,.slice pa g.procs.length pc,.int .u8 g.main.kind,.int .i64 g.main.num,str g.main.name,.slice ma g.main.kids.length mc]
structure PG.sits (S:nP) (w:wD) (g:PG) (va pa ma:oA):Prop where
 vars:VDs S w g.vars va
 procs:PDs S w g.procs pa
 main:g.main.sits S w ma
def PG.sits.ext {S:nP} {w w':wD} {g:PG} {G M N:oA} (h:g.sits S w G M N) (x:Ext w w'):g.sits S w' G M N:=⟨h.vars.ext x,h.procs.ext x,h.main.ext x⟩
instance {g:PG} {M N:oA}:LfE w w' (g.sits S w a M N) (g.sits S w' a M N):=⟨λx h=>Bk.PG.sits.ext h x⟩
def VDs.fr {T:nP} (h:VDs S w l a) (x:Fr T w w') (G:∀b,S b -> ¬T b):VDs S w' l a:=h.mono aFh (λb _ _ _ M h=>mN h x (G b M))
instance {T:nP}:LfF T w w' (VDs S w l a) (∀b,S b -> ¬T b) (VDs S w' l a):=⟨λx s h=>Bk.VDs.fr h x s⟩
def PDs.fr {S T:nP} {w w':wD} {l:List PD} {a:oA} (h:PDs S w l a) (x:Fr T w w') (G:∀b,S b -> ¬T b):PDs S w' l a:=
 h.mono aFh (λb _ _ _ M ⟨N,pc,ba,bc,h1,h2,h3⟩=>⟨N,pc,ba,bc,h1.fr x (G b M),h2.fr x G,h3.fr x G⟩)
instance {T:nP} {l:List PD}:LfF T w w' (PDs S w l a) (∀b,S b -> ¬T b) (PDs S w' l a):=⟨λx s h=>Bk.PDs.fr h x s⟩
def PG.sits.fr {S T:nP} {w w':wD} {g:PG} {G M N:oA} (h:g.sits S w G M N) (x:Fr T w w') (O:∀b,S b -> ¬T b):g.sits S w' G M N:=⟨h.vars.fr x O,h.procs.fr x O,h.main.fr x O⟩
instance {T:nP} {g:PG} {M N:oA}:LfF T w w' (g.sits S w a M N) (∀b,S b -> ¬T b) (g.sits S w' a M N):=⟨λx s h=>Bk.PG.sits.fr h x s⟩
def VDs.wide {S':nP} (h:VDs S w l a) (G:∀b,S b->S' b):VDs S' w l a:=h.mono G (λ_ _ _ _ _ h=>h)
def PDs.wide {S S':nP} {w:wD} {l:List PD} {a:oA} (h:PDs S w l a) (G:∀b,S b->S' b):PDs S' w l a:=
 h.mono G (λ_ _ _ _ _ ⟨M,pc,ba,bc,h1,h2,h3⟩=>⟨M,pc,ba,bc,h1,h2.wide G,h3.wide G⟩)
def PG.sits.wide {S S':nP} {w:wD} {g:PG} {M N O:oA} (h:g.sits S w M N O) (G:∀b,S b->S' b):g.sits S' w M N O:=⟨h.vars.wide G,h.procs.wide G,h.main.wide G⟩
def Lw {b o:Nat} {vs:lV} (h:Row w ⟨b,o,none⟩ vs) (G:∀o v,w.cell? ⟨b,o,none⟩=some v->w'.cell? ⟨b,o,none⟩=some v):Row w' ⟨b,o,none⟩ vs:=λi v M=>by
 have:=h.at M;have e:(⟨b,o,none⟩:Addr).add i=⟨b,o+i,none⟩:=by unfold jY;by_cases N:i=0<;>simp [N]
 rw [e];exact G _ _ this
def VDs.move {S':nP} (h:VDs S w l a) (G:∀b,S b->S' b) (M:∀b o v,S b->w.cell? ⟨b,o,none⟩=some v->w'.cell? ⟨b,o,none⟩=some v):VDs S' w' l a:=
 h.mono G (λb o x _ N h=>Lw h (λo v=>M b o v N))
def VDs.lt2 (h:VDs S w l a):VDs (λb=>S b/\b<w.heap.size) w l a:=by
 rcases h with h|⟨b,o,M,N,G⟩
 . exact gA h
 . cases l with
   | nil=>exact gA rfl
   | cons v r=>exact gB ⟨b,o,M,⟨N,Ci (mE (G 0 v rfl) rfl)⟩,G⟩
def Rv:1<=maxLen:=by unfold maxLen;omega
def Rows (S:nP) (w:wD) (cs:lV) (a:oA):Prop:=cs=[] \/ ∃b o,a=some ⟨b,o,none⟩/\S b/\Row w ⟨b,o,none⟩ cs
section
variable {S' T:nP}
def Rows.ext (h:Rows S w cs a) (x:Ext w w'):Rows S w' cs a:=h.imp id λ⟨b,o,h1,h2,h3⟩=>⟨b,o,h1,h2,h3.ext x⟩
instance  : LfE w w' (Rows S w cs a) (Rows S w' cs a):=⟨λx h=>Bk.Rows.ext h x⟩
def Rows.fr (h:Rows S w cs a) (x:Fr T w w') (G:∀b,S b -> ¬T b):Rows S w' cs a:=h.imp id λ⟨b,o,h1,h2,h3⟩=>⟨b,o,h1,h2,h3.fr x (G b h2)⟩
instance  : LfF T w w' (Rows S w cs a) (∀b,S b -> ¬T b) (Rows S w' cs a):=⟨λx s h=>Bk.Rows.fr h x s⟩
def Rows.wide (h:Rows S w cs a) (G:∀b,S b->S' b):Rows S' w cs a:=h.imp id λ⟨b,o,h1,h2,h3⟩=>⟨b,o,h1,G b h2,h3⟩
def Rows.lt2 (h:Rows S w cs a):Rows (λb=>S b/\b<w.heap.size) w cs a:=by
 rcases h with h|⟨b,o,M,N,G⟩
 . exact gA h
 . cases cs with
   | nil=>exact gA rfl
   | cons v r=>exact gB ⟨b,o,M,⟨N,Ci (mE G rfl)⟩,G⟩
def Rows.ltA (h:Rows S w cs a):Rows (· < w.heap.size) w cs a:=h.lt2.wide λ_ h=>h.2
def Rows.get (h:Rows S w cs a) (G:cs≠[]):∃b o,a=some ⟨b,o,none⟩/\S b/\Row w ⟨b,o,none⟩ cs:=h.resolve_left G
def Rows.move (h:Rows S w cs a) (G:∀b,S b->S' b) (M:∀b o v,S b->w.cell? ⟨b,o,none⟩=some v->w'.cell? ⟨b,o,none⟩=some v):Rows S' w' cs a:=
 h.imp id λ⟨b,o,h1,h2,h3⟩=>⟨b,o,h1,G b h2,Lw h3 (λo v=>M b o v h2)⟩
end
def OwnF (e sz B:Nat) (w:wD) (g cap n:Nat) (cs:lV):Prop:=B<=g/\Own w g e sz (.slice (some ⟨g,0,none⟩) n cap) n cs
def OwnF.lt {cap:Nat} (h:OwnF e sz B w g cap n cs):g<w.heap.size:=(h.2.blk (k:=g) rfl).2
def OwnF.fr {e sz B:Nat} {T:nP} {w w':wD} {g cap n:Nat} {cs:lV} (h:OwnF e sz B w g cap n cs) (x:Fr T w w') (M:∀k,T k->k≠g):OwnF e sz B w' g cap n cs:=
 ⟨h.1,h.2.fr x (λk G N=>by simp only [kw,gE] at G;exact M k N G.symm)⟩
instance {T:nP} {cap:Nat}:LfF T w w' (OwnF e sz B w g cap n cs) (∀k,T k->k≠g) (OwnF e sz B w' g cap n cs):=⟨λx s h=>Bk.OwnF.fr h x s⟩
def OwnF.ext {e sz B:Nat} {w w':wD} {g cap n:Nat} {cs:lV} (h:OwnF e sz B w g cap n cs) (x:Ext w w'):OwnF e sz B w' g cap n cs:=⟨h.1,h.2.ext x⟩
instance {cap:Nat}:LfE w w' (OwnF e sz B w g cap n cs) (OwnF e sz B w' g cap n cs):=⟨λx h=>Bk.OwnF.ext h x⟩
def OwnF.row {e sz B:Nat} {w:wD} {g cap n:Nat} {cs:lV} (h:OwnF e sz B w g cap n cs):Row w ⟨g,0,none⟩ cs:=by
 rcases h.2.row with ⟨G,-⟩|⟨O,M,G,-,-,N⟩
 . simp at G
 . simp only [iF,gE,kL,and_true] at G;obtain ⟨rfl,-⟩:=G;exact N
def OwnF.rows {cap:Nat} (h:OwnF e sz B w g cap n cs) (G:S g):Rows S w cs (some ⟨g,0,none⟩):=gB ⟨g,0,rfl,G,h.row⟩
def OwnF.le {cap:Nat} (h:OwnF e sz B w g cap n cs):n<=cap:=by
 rcases h.2.2 with ⟨G,-⟩|⟨O,M,cur,G,-,-,N,-⟩
 . simp at G
 . simp only [iF] at G;obtain ⟨-,-,rfl⟩:=G;exact N
section
variable {l:Sl} {tab:Tab} {zt:Ee} {ty:TypeId}
def DB {sz1:Nat} {sE:Sk} (T:TabOk P tab) (ht:AB tab t=some (.slice e,sz1)) (hE:AB tab e=some (sE,sz)) (hB:B<=w.heap.size) :
 BG P n l (.buildSlice t 0 #[]) ty w (FQ λo w'=> ∃g,o = .slice (some ⟨g,0,none⟩) 0 0/\OwnF e sz B w' g 0 0 []/\w.heap.size<=g/\g<w'.heap.size/\Ext w w'):=by
 unfold BG;intro a dst pos after g next Q ha hn _;obtain ⟨i,hi,hs⟩:=(T _ _ _ hE).info;have hu:=(T _ _ _ ht).under;have e1:(Instr.buildSlice t 0 #[]).run P w = .ok (.slice (some ⟨w.heap.size,0,none⟩) 0 0) (w.alloc (.cells #[] e)):=by
  simp [Instr.buildSlice,AD hu,Go.sizeOf,typeInfo,hi,Instr.fill,newRow,show Array.range 0 = #[] from rfl]
 have e2:(execOp a.eval ⟨dst,.buildSlice t 0 #[],ty,pos,after,g⟩).run P w = .ok (.value (.slice (some ⟨w.heap.size,0,none⟩) 0 0)) (w.alloc (.cells #[] e)):=by
  simp [execOp,gO,e1,jL]
 unfold km;rw [e2];have hx:Ext w (w.alloc (.cells #[] e)):=(Eg w [] e).ext;refine hn _ _ ⟨w.heap.size,rfl,⟨hB,AQ,gB ⟨w.heap.size,0,#[],rfl,gP _,?_,gP _,by unfold maxLen;omega,AQ,AQ⟩⟩,gP _,?_,hx⟩
 . rw [show (w.alloc (Obj.cells #[] e)).heap=w.heap.push (.cells #[] e) from rfl];simp
 . rw [show (w.alloc (Obj.cells #[] e)).heap=w.heap.push (.cells #[] e) from rfl];simp
def Bo {y:Operand} {sz1 cap c k m:Nat} {sE:Sk} {zs:lV} {ds:lV} (T:TabOk P tab) (Z:Cj P zt) (ht:AB tab t=some (.slice e,sz1)) (hE:AB tab e=some (sE,sz)) (hz:CC zt e=some zs) (hzl:zs.length=sz)
 (hby:Dk P e=true) (hsz:iC 0 sz=true) (hx:ev l x=some (.slice (some ⟨g,0,none⟩) k cap)) (hy:ev l y=some (.slice a m c)) (hown:OwnF e sz B w g cap k cs) (hs:Rows S w ds a) (hl:ds.length=m*sz) (hone:ds.all mG=true) (hkm:k+m<=100000000000) :
 BG P n l (.call ⟨.builtin .append,#[x,y],#[t,t]⟩) ty w (FQ λo w'=> ∃g' cap',o = .slice (some ⟨g',0,none⟩) (k+m) cap'/\OwnF e sz B w' g' cap' (k+m) (cs++ds)/\(g'=g\/w.heap.size<=g')/\g'<w'.heap.size/\Fr (λk=>k=g) w w'):=by
 have hlt:=hown.lt;have hncap:=hown.le;obtain ⟨h0,h1⟩:=hown;have hsz':0<sz:=by simpa using hsz
 by_cases hm:m=0
 . subst hm;have d:ds=[]:=by simpa using hl
   subst d;unfold BG;intro act dst pos after gd next Q ha hn _;obtain ⟨i,hi,hsz⟩:=(T _ _ _ hE).info;have hun:=(T _ _ _ ht).under;have key:∃w',(Builtin.append_ #[t,t] ty #[.slice (some ⟨g,0,none⟩) k cap,.slice a 0 c]).run P w = .ok (.slice (some ⟨g,0,none⟩) k cap) w'/\Own w' g e sz (.slice (some ⟨g,0,none⟩) k cap) k cs/\Fr (λk=>k=g) w w':=by
    cases a with
    | none=>exact ⟨w,JU w t ty e i hun hi g k cap c hncap,h1,.of_ext (Ne w)⟩
    | some p=>
     obtain ⟨w',r1,r2,r3⟩:=run_append_fits (P:=P) w g t ty e i sz hun hi hsz g k cap cs h1 p 0 c [] AQ (λj u hj=>by simp at hj) (λu hu=>by cases hu) Ab;refine ⟨w',by simpa using r1,by simpa using r2,?_⟩;have:=Fr.of_grown r3;exact this.weaken (λb hb=>by simpa using hb)
   obtain ⟨w',hrun,ho,hf⟩:=key;have e1:(execOp act.eval ⟨dst,.call ⟨.builtin .append,#[x,y],#[t,t]⟩,ty,pos,after,gd⟩).run P w = .ok (.value (.slice (some ⟨g,0,none⟩) k cap)) w':=by
    simp only [execOp,resolve,invoke,builtin,gO,hH,jL,lW,iO,lg,ha.ev hx,ha.ev hy,hrun]
   unfold km;rw [e1];have hsz':=hf.size;exact hn _ _ ⟨g,cap,AQ,⟨h0,by simpa using ho⟩,gA rfl,Ab,hf⟩
 . have hdn:ds≠[]:=by
    rintro rfl;simp only [iM] at hl;have:=Nat.mul_pos (Nat.pos_of_ne_zero hm) hsz';omega
   obtain ⟨pb,po,rfl,-,d1⟩:=hs.get hdn;have hd:=DV (P:=P) (n:=n) (l:=l) (ty:=ty) T Z ht hE hz hzl hby hsz hx hy h1 d1 hl hone Ab Ab Ab;unfold BG at hd ⊢;intro act dst pos after gd next Q ha hn q;refine hd act dst pos after gd next Q ha (λv' w' hG=>?_) (λw' hG=>hG.elim);obtain ⟨g1,g2,g',cap',g3,g4⟩:=hG;have hf:Fr (λk=>k=g) w w':=g2.weaken (λb hb=>by simpa [kw] using hb.symm);subst g3;have hgg:=g1.blk (k:=g') rfl;refine hn _ w' ⟨g',cap',rfl,⟨Ab,?_⟩,?_,hgg.2,hf⟩
   . obtain ⟨k1,k2|⟨g2',f,cur,k3,k4,k5⟩⟩:=g1
     . simp at k2
     . simp only [iF,gE,kL,and_true,true_and] at k3;obtain ⟨rfl,rfl⟩:=k3;exact ⟨k1,gB ⟨g',cap',cur,rfl,gP _,k5⟩⟩
   . rcases g4 with h|h
     . simp only [kw,gE] at h;exact gA h.symm
     . exact gB h
end
def Nj {α:Type} {f:α->lV} {sz:Nat} (G:∀x,(f x).length=sz) {w:wD} {b:Nat}:∀(l:List α) (o:Nat),(∀(i:Nat) (x:α),l[i]? = some x->Row w ⟨b,o+i*sz,none⟩ (f x))->Row w ⟨b,o,none⟩ (l.flatMap f)
 | [],o,_=>λi v M=>by simp at M
 | x::r,o,h=>by
  rw [jZ];refine Yg (by simpa using h 0 x rfl) ?_;rw [G x];refine Nj G r (o+sz) (λi y N=>?_);have:=h (i+1) y N;rw [show o+sz+i*sz=o+(i+1)*sz by rw [kE];omega];exact this
def JV {α:Type} {f:α->lV} {sz:Nat} (U:∀x,(f x).length=sz) {w:wD} {b:Nat}:∀(l:List α) (o:Nat),Row w ⟨b,o,none⟩ (l.flatMap f) -> ∀(i:Nat) (x:α),l[i]? = some x->Row w ⟨b,o+i*sz,none⟩ (f x)
 | [],_,_,i,x,G=>by simp at G
 | y::r,o,h,i,x,G=>by
  rw [jZ] at h;cases i with
  | zero=>
   simp only [gX,gE] at G;subst G;intro j v M;have N:j<(f y).length:=by
    rcases gQ j (f y).length with O|O
    . exact O
    . rw [gM O] at M;cases M
   have:=h j v (by rw [gN N];exact M);simpa using this
  | succ i=>
   simp only [lx] at G;have V:Row w ⟨b,o+sz,none⟩ (r.flatMap f):=by
    have:=h.sub sz (r.flatMap f).length;rw [List.drop_left' (U y),gL] at this;exact this
   have:=JV U r (o+sz) V i x G;rw [show o+(i+1)*sz=o+sz+i*sz by rw [kE];omega];exact this
def G5 {α:Type} {f:α->lV} {sz:Nat} (h:∀x,(f x).length=sz):∀l:List α,(l.flatMap f).length=l.length*sz
 | []=>by simp
 | x::r=>by rw [jZ,gR,h x,G5 h r,gH,kE];omega
def Ky {α:Type} {f:α->lV} (h:∀x,(f x).all mG=true):∀l:List α,(l.flatMap f).all mG=true
 | []=>rfl
 | x::r=>by rw [jZ,lJ,h x,Ky h r];rfl
def Nk {l:Sl} {S:wD->Prop} {tab:Tab} {ty:Nat} {m c:Nat} (T:TabOk P tab) (G:AB tab t=some (.slice e,sz)) (M:ev l x=some (.slice a m c)):Bm P n l S (.binOp .eql t x (.const (.slice none 0 0)) B) ty (.bool a.isNone):=by
 unfold Bm;intro h w N pos after g O _;have U:P.underlying t=some (.slice e):=(T _ _ _ G).under;have V:(eqGuard .eql t x (.const (.slice none 0 0)) (.slice a m c) (.slice none 0 0)).run P w = .ok () w:=by unfold eqGuard;simp
 have X:(Op.equal t (.slice a m c) (.slice none 0 0)).run P w = .ok a.isNone w:=by
  show (Op.equalIn (9999+1) t (.slice a m c) (.slice none 0 0)).run P w=_;unfold Op.equalIn;cases a<;>simp [AD U,gF]
 have Y:h.eval (.const (.slice none 0 0)) = .slice none 0 0:=rfl;simp [execOp,O.ev M,Y,V,X,binOp]
def Lx {l:Sl} {S:wD->Prop} {tab:Tab} {ty:Nat} {m c:Nat} (T:TabOk P tab) (h:AB tab t=some (.slice e,sz)) (G:ev l x=some (.slice none m c)):Bm P n l S (.binOp .eql t x (.const (.slice none 0 0)) B) ty (.bool true):=Nk T h G
def Ly {l:Sl} {S:wD->Prop} {tab:Tab} {ty:Nat} {p:Addr} {m c:Nat} (T:TabOk P tab) (h:AB tab t=some (.slice e,sz)) (G:ev l x=some (.slice (some p) m c)):Bm P n l S (.binOp .eql t x (.const (.slice none 0 0)) B) ty (.bool false):=Nk T h G
end Bk
namespace Go.Proofs
open Go.Shelf
def Tryz.lays137_ren:Go.Shelf.Ren:=⟨fun|137=>114|217=>155|266=>183|n=>n,fun|9=>9|5=>5|3=>3|n=>n,fun|n=>n⟩
def Tryz.lays137:Go.Proofs.Lays.n137 prog Tryz.lays137_ren:={
 mixed:=by kernel_rfl
 f137:=func114.trans (congrArg some (by kernel_rfl))
 f217:=func155.trans (congrArg some (by kernel_rfl))
 f266:=func183.trans (congrArg some (by kernel_rfl))
 t3:=underlying3
 a3:=isAgg3
 z3:=sizeOf3
 v3:=zeroValue3
 t5:=underlying5
 a5:=isAgg5
 z5:=sizeOf5
 v5:=zeroValue5
 t9:=underlying9
 a9:=isAgg9
 z9:=sizeOf9
 v9:=zeroValue9 }
open Go.RowKit in
def Tryz.strings_IndexByte (s:ByteArray) (c:Int) (w:World) :
 Calls prog 114 #[.string s,.int .u8 c] w λe w'=>e = .returned (.int .i64 (Lib.indexByte s.data.toList c.toNat.toUInt8))/\w'=w:=Any.strings_IndexByte Tryz.lays137 s c w
def Tryz.lays129_ren:Go.Shelf.Ren:=⟨fun|129=>101|n=>n,fun|53=>162|3=>3|4=>4|46=>124|5=>5|9=>9|n=>n,fun|n=>n⟩
def Tryz.lays129:Go.Proofs.Lays.n129 prog Tryz.lays129_ren:={
 mixed:=by kernel_rfl
 f129:=func101.trans (congrArg some (by kernel_rfl))
 t3:=underlying3
 a3:=isAgg3
 z3:=sizeOf3
 v3:=zeroValue3
 t4:=underlying4
 a4:=isAgg4
 z4:=sizeOf4
 v4:=zeroValue4
 t5:=underlying5
 a5:=isAgg5
 z5:=sizeOf5
 v5:=zeroValue5
 t9:=underlying9
 a9:=isAgg9
 z9:=sizeOf9
 v9:=zeroValue9
 t46:=underlying124
 a46:=isAgg124
 z46:=sizeOf124
 v46:=zeroValue124
 t53:=underlying162
 a53:=isAgg162
 z53:=sizeOf162
 v53:=zeroValue162 }
def Tryz.bits_Len64 (x:Int) (w:World) (h:0<=x) (G:x<=18446744073709551615) :
 Calls prog 101 #[.int .u64 x] w λe w'=>e = .returned (.int .i64 (Lib.bitLen x.toNat))/\w'=w:=Any.bits_Len64 Tryz.lays129 x w h G
def Tryz.lays99_ren:Go.Shelf.Ren:=⟨fun|99=>113|206=>154|n=>n,fun|9=>9|4=>4|3=>3|n=>n,fun|n=>n⟩
def Tryz.lays99:Go.Proofs.Lays.n99 prog Tryz.lays99_ren:={
 mixed:=by kernel_rfl
 f99:=func113.trans (congrArg some (by kernel_rfl))
 f206:=func154.trans (congrArg some (by kernel_rfl))
 t3:=underlying3
 a3:=isAgg3
 z3:=sizeOf3
 v3:=zeroValue3
 t4:=underlying4
 a4:=isAgg4
 z4:=sizeOf4
 v4:=zeroValue4
 t9:=underlying9
 a9:=isAgg9
 z9:=sizeOf9
 v9:=zeroValue9 }
open Go.RowKit Go.Lib in
def Tryz.strings_HasPrefix (s p:ByteArray) (w:World) :
 Calls prog 113 #[.string s,.string p] w λe w'=>e = .returned (.bool (Lib.hasPrefix s.data.toList p.data.toList))/\w'=w:=Any.strings_HasPrefix Tryz.lays99 s p w
end Go.Proofs
namespace Bk
open Go Go.RowKit Go.Proofs
variable {B n:Nat} {w w':wD} {k:Int} {xs:List Int} {α:Type} {v:Value} {zs:lV} {l:List Nd} {x:Nd} {e:Ending} {ty:TypeId} {a:oA} {S:nP} {s:lB}
def SP {k:IntKind} {a b:Int} (h:a=b):Ending.returned (.int k a) = .returned (.int k b):=by rw [h]
def AZ {a b:Bool} (h:a=b):Ending.returned (.bool a) = .returned (.bool b):=by rw [h]
def Pq (c:UInt8) (w:wD):Calls prog 75 #[.int .u8 c.toNat] w λe w'=>e = .returned (.bool (IG c))/\w=w':=by
 go_enter func75,ntmps75
 go_wp2_with fail
 all_goals go_ret
 all_goals (refine ⟨AZ ?_,rfl⟩;unfold IG;rw [jV];simp;try omega)
def Oj (c:UInt8) (w:wD):Calls prog 78 #[.int .u8 c.toNat] w λe w'=>e = .returned (.bool (Jf c))/\w=w':=by
 go_enter func78,ntmps78
 go_wp2_with fail
 all_goals go_ret
 all_goals (refine ⟨AZ ?_,rfl⟩;unfold Jf;rw [jV];simp;try omega)
def SQ (c:UInt8) (w:wD):Calls prog 79 #[.int .u8 c.toNat] w λe w'=>e = .returned (.bool (Kv c))/\w=w':=by
 go_enter func79,ntmps79
 go_wp2_with fail
 all_goals go_ret
 all_goals (refine ⟨AZ ?_,rfl⟩;unfold Kv;rw [jV];simp;try omega)
def Yh (c:UInt8) (w:wD):Calls prog 80 #[.int .u8 c.toNat] w λe w'=>e = .returned (.bool (Pk c))/\w=w':=by
 go_enter func80,ntmps80
 go_wp2_with fail
 all_goals go_ret
 all_goals (refine ⟨AZ ?_,rfl⟩;unfold Pk;rw [jV];simp;try omega)
def TP (c:UInt8) (w:wD):Calls prog 77 #[.int .u8 c.toNat] w λe w'=>e = .returned (.bool (Jg c))/\w=w':=by
 go_enter func77,ntmps77
 cases hl:IG c
 all_goals have HL:=fZ hl;clear hl
 all_goals go_wp2_with (first|(go_at_call 75;refine (Pq c _).mono ?_;rintro e w' ⟨rfl,rfl⟩;rw [HL.out])|(go_at_call 78;refine (Oj c _).mono ?_;rintro e w' ⟨rfl,rfl⟩))
 all_goals go_ret
 all_goals (refine ⟨AZ ?_,rfl⟩;unfold Jg;rw [HL.out];simp)
def Ol (f:FuncId) (p:UInt8->Bool) (hp:∀(c:UInt8) (w:wD),Calls prog f #[.int .u8 c.toNat] w λe w'=>e = .returned (.bool (p c))/\w=w')
 (he:∀args w,(callFunc f args).run prog w = .ok (.enter f args) w) (s:lB) (w:wD) (hs:s.length<=9223372036854775807) :
 Calls prog 76 #[str s,.func (.func f) #[] #[]] w λe w'=>e = .returned (.int .i64 (II p s))/\w=w':=by
 have HP:=fZ hp;clear hp
 go_enter func76,ntmps76
 go_wp2_with fail
 go_loop [8] (λi=> ∃j:Nat,j<=s.length/\i = .int .i64 j/\Hid (II p s=j+II p (s.drop j))) (λi=>s.length-(RowKit.intOf i).toNat)
 case atStart=>exact ⟨0,gI _,rfl,fZ (by simp)⟩
 case round=>
  obtain ⟨j,hj,rfl,HJ⟩:=hrel
  by_cases hlt:j<s.length
  . go_wp2_with fail
    refine (HP.out s[j] _).mono ?_;rintro e w' ⟨rfl,rfl⟩;have hd:=gW hlt
    have hsp:II p (s.drop j)=if p s[j] then 1+II p (s.drop (j+1)) else 0:=by
     rw [hd];unfold II;rw [List.takeWhile_cons];split<;>simp;omega
    have HSP:=fZ hsp;clear hsp hd
    cases hb:p s[j]
    . have HB:=fZ hb;clear hb
      go_wp2_with fail
      go_ret
      refine ⟨SP ?_,rfl⟩
      rw [HJ.out,HSP.out,HB.out];simp
    . have HB:=fZ hb;clear hb
      go_wp2_with fail
      go_round
      case rel=>exact ⟨j+1,by omega,by go_num,fZ (by rw [HJ.out,HSP.out,HB.out];simp;omega)⟩
      case measure=>simp [RowKit.intOf];omega
  . go_wp2_with fail
    go_ret
    refine ⟨SP ?_,rfl⟩
    rw [HJ.out,iZ (by omega)];simp [II];omega
def VE (s:lB) (n:Int) (G:n.toNat=min 2 s.length):(⟨s.toArray⟩:ByteArray).extract 0 n.toNat=⟨(s.take 2).toArray⟩:=by
 apply ByteArray.ext;rw [G];simp only [ByteArray.data_extract];apply lO;simp only [List.extract_toArray,List.extract_eq_take_drop,kP,kg];rcases Nat.le_total 2 s.length with h|h
 . rw [lu h]
 . rw [Nat.min_eq_right h,kx h,gL]
def Jj:∀(l:lB) (c:UInt8),-1<=Lib.indexByte l c
 | [],c=>by simp [Lib.indexByte]
 | b::l,c=>by
  have:=Jj l c;unfold Lib.indexByte;split
  . omega
  . split<;>omega
def Fk:∀(l:lB) (c:UInt8),(0<=Lib.indexByte l c)↔l.contains c=true
 | [],c=>by simp [Lib.indexByte]
 | b::l,c=>by
  have M:=Fk l c;have N:=Jj l c;unfold Lib.indexByte;rw [mb];by_cases h:b=c
  . simp [h]
  . have G:¬c=b:=λe=>h e.symm
    simp only [beq_iff_eq,h,G,if_false,jP,false_or,<-M];split<;>omega
def aB (c:UInt8) (r:lB) (w:wD) (hs:(c::r).length<=9223372036854775807) :
 Calls prog 81 #[str (c::r)] w λe w'=>e = .returned (.int .i64 (La (c::r)))/\w=w':=by
 simp only [gH] at hs;have hx:=VE (c::r) (min 2 ((r.length:Int)+1)) (by simp only [gH];omega)
 have hsl:La (c::r)=if List.isPrefixOf [60,61,62] (c::r) then 3 else if pairs.contains ((c::r).take 2) then 2 else if singles.contains c then 1 else 0:=rfl
 have HSL:=fZ hsl;clear hsl
 generalize (c::r).take 2=t at *
 cases h3:List.isPrefixOf [60,61,62] (c::r)
 . have H3:=fZ h3;clear h3
   cases hp:pairs.contains t
   . have HP:=fZ hp
     simp only [pairs,mb,List.contains_nil,Bool.or_eq_false_iff,Bool.or_false] at hp;obtain ⟨p0,p1,p2,p3,p4,p5,p6,p7,p8,p9⟩:=hp
     go_enter func81,ntmps81
     go_wp2_with (go_at_call 113;refine (Tryz.strings_HasPrefix _ _ _).mono ?_;rintro e w' ⟨rfl,rfl⟩;rw [show Lib.hasPrefix (⟨(c::r).toArray⟩:ByteArray).data.toList (⟨#[60,61,62]⟩:ByteArray).data.toList=false from H3.out])
     refine (Tryz.strings_IndexByte _ _ _).mono ?_;rintro e w2 ⟨rfl,rfl⟩
     have e0:(((c.toNat:Nat):Int)).toNat.toUInt8=c:=by simp
     have e1:∀h,(((((⟨(c::r).toArray⟩:ByteArray)[0]'h).toNat:Nat):Int)).toNat.toUInt8=c:=λ_=>e0
     rw [e1];have hi:=Fk singles c;rw [show Lib.indexByte (⟨#[43,45,42,47,37,38,124,94,33,61,60,62,40,41,123,125,91,93,59,44]⟩:ByteArray).data.toList c=Lib.indexByte singles c from rfl]
     generalize Lib.indexByte singles c=ix at *
     cases hc:singles.contains c
     . have hlt:ix<0:=by rw [hc] at hi;simp at hi;omega
       have HC:=fZ hc;clear hc hi
       simp only
       go_wp2_with fail
       go_ret
       rw [HSL.out,H3.out,HP.out,HC.out];exact ⟨rfl,rfl⟩
     . have hge:0<=ix:=hi.2 hc
       have HC:=fZ hc;clear hc hi
       simp only
       go_wp2_with fail
       go_ret
       rw [HSL.out,H3.out,HP.out,HC.out];exact ⟨rfl,rfl⟩
   . go_enter func81,ntmps81
     go_wp2_with (go_at_call 113;refine (Tryz.strings_HasPrefix _ _ _).mono ?_;rintro e w' ⟨rfl,rfl⟩;rw [show Lib.hasPrefix (⟨(c::r).toArray⟩:ByteArray).data.toList (⟨#[60,61,62]⟩:ByteArray).data.toList=false from H3.out])
     all_goals first|(go_ret;rw [HSL.out,H3.out,hp];exact ⟨rfl,rfl⟩)|(exfalso;simp_all [pairs];done)
 . have H3:=fZ h3;clear h3
   go_enter func81,ntmps81
   go_wp2_with (go_at_call 113;refine (Tryz.strings_HasPrefix _ _ _).mono ?_;rintro e w' ⟨rfl,rfl⟩;rw [show Lib.hasPrefix (⟨(c::r).toArray⟩:ByteArray).data.toList (⟨#[60,61,62]⟩:ByteArray).data.toList=true from H3.out])
   go_ret
   rw [HSL.out,H3.out];exact ⟨rfl,rfl⟩
def Cr:List lB->Nat->List MapEntry
 | [],_=>[]
 | k::r,i=>{ key:=str k,val:=.bool true,born:=i }::Cr r (i+1)
def D8 (ks:List lB):Obj:=.map (Cr ks 0).toArray ks.length
def Lz (h:List lB) (k:lB):∀i,Cr (h++[k]) i=Cr h i++[{ key:=str k,val:=.bool true,born:=i+h.length }]:=by
 induction h with
 | nil=>intro i;simp [Cr]
 | cons x r G=>intro i;simp [Cr,G,lG,lL 1]
def aC (b:ByteArray) (x:lB):(b==(⟨x.toArray⟩:ByteArray))=(b.data.toList==x):=by
 show (b.data==x.toArray)=_;rw [jV];simp;constructor
 . intro h;rw [h]
 . intro h;rw [<-h]
def IL (b:ByteArray) (G:List lB):∀i j,(G.contains b.data.toList=false->Instr.findNow .string (.string b) (Cr G i) j=some none) /\
 (G.contains b.data.toList=true -> ∃n,Instr.findNow .string (.string b) (Cr G i) j=some (some (n,.bool true))):=by
 induction G with
 | nil=>intro i j;simp [Cr,Instr.findNow]
 | cons x r M=>
  intro i j;simp only [Cr,Instr.findNow,Instr.sameNow,aC,mb];cases h:b.data.toList==x
  . simpa using M (i+1) (j+1)
  . simp
def VF (h:Array Obj) (a b:Obj):(h.push a).setIfInBounds h.size b=h.push b:=by
 apply lO;simp
def LA:prog.underlying 138=some (.map 9 4):=by kernel_rfl
def DO:prog.underlying 9=some .string:=by kernel_rfl
def Rw (w:wD) (G:List lB) (b:ByteArray) (h:G.contains b.data.toList=false) :
 (Instr.mapUpdate 138 (.map (some w.heap.size)) (.string b) (.bool true)).run prog (w.alloc (D8 G)) = .ok () (w.alloc (D8 (G++[b.data.toList]))):=by
 have M:(w.alloc (D8 G)).heap[w.heap.size]? = some (.map (Cr G 0).toArray G.length):=by show (w.heap.push (D8 G))[w.heap.size]? = _;simp [D8]
 have N:Instr.findNow .string (.string b) (Cr G 0) 0=some none:=(IL b G 0 0).1 h;have O:(Instr.checkKey false 10000 9 (.string b)).run prog (w.alloc (D8 G)) = .ok () (w.alloc (D8 G)):=MapKept.run_checkKey (k:=.string b) DO (by simp [MapKept.IsKey]) false 9999;simp [Instr.mapUpdate,AD LA,l6 M,O,mf DO N,MapKept.run_setObj_map _ M,gF];show ({ w with heap:=(w.heap.push (D8 G)).setIfInBounds w.heap.size _ }:wD)={ w with heap:=w.heap.push _ };rw [VF];unfold D8;rw [Lz];simp
def Pr (w:wD) (h:List lB) (b:ByteArray) :
 (Instr.lookup 138 (.map (some w.heap.size)) (.string b) false).run prog (w.alloc (D8 h)) = .ok (.bool (h.contains b.data.toList)) (w.alloc (D8 h)):=by
 have M:(w.alloc (D8 h)).heap[w.heap.size]? = some (.map (Cr h 0).toArray h.length):=by show (w.heap.push (D8 h))[w.heap.size]? = _;simp [D8]
 have N:∀q,(Instr.checkKey q 10000 9 (.string b)).run prog (w.alloc (D8 h)) = .ok () (w.alloc (D8 h)):=λq=>MapKept.run_checkKey (k:=.string b) DO (by simp [MapKept.IsKey]) q 9999
 have O:(zeroValue 4).run prog (w.alloc (D8 h)) = .ok (.bool false) (w.alloc (D8 h)):=by kernel_rfl
 cases hk:h.contains b.data.toList
 . have G:=(IL b h 0 0).1 hk;simp [Instr.lookup,AD LA,l6 M,N,mf DO G,O,gF]
 . obtain ⟨n,G⟩:=(IL b h 0 0).2 hk;simp [Instr.lookup,AD LA,l6 M,N,mf DO G,gF]
def Ps (w:wD):(Instr.makeMap 138 none).run prog w = .ok (.map (some w.heap.size)) (w.alloc (D8 [])):=run_makeMap _ w
def Pu (s:lB) (h:FH s=true):2<=s.length/\s.length<=7:=by
 have key:∀k∈keywords,2<=k.length/\k.length<=7:=by decide
 exact key s (by simpa [FH] using h)
def TQ (s:lB) (w:wD) (hs:s.length<=9223372036854775807) :
 Calls prog 45 #[str s] w λe w'=>e = .returned (.bool (FH s))/\Ext w w':=by
 by_cases h2:s.length<2\/7<s.length
 . have hk:FH s=false:=by
    cases h:FH s
    . rfl
    . have:=Pu s h;omega
   have HK:=fZ hk;clear hk
   by_cases h3:s.length<2
   . have d1:decide ((s.length:Int)<2)=true:=by simp;omega
     clear h2
     go_enter func45,ntmps45
     go_wp2_with fail
     go_ret
     rw [HK.out];exact ⟨rfl,Ne _⟩
   . have d1:decide ((s.length:Int)<2)=false:=by simp;omega
     have d2:decide ((7:Int)<s.length)=true:=by simp;omega
     clear h2
     go_enter func45,ntmps45
     go_wp2_with fail
     go_ret
     rw [HK.out];exact ⟨rfl,Ne _⟩
 . have d1:decide ((s.length:Int)<2)=false:=by simp;omega
   have d2:decide ((7:Int)<s.length)=false:=by simp;omega
   have r1:=Ps;have r2:=Rw w;have r3:=Pr w
   go_enter func45,ntmps45
   go_wp2_with fail
   go_ret
   exact ⟨AZ (by simp [FH,keywords]),(by refine mz ?_ _;exact Ne _)⟩
def VG:∀args w,(callFunc 78 args).run prog w = .ok (.enter 78 args) w:=enters_of func78 AR rfl
def VH:∀args w,(callFunc 79 args).run prog w = .ok (.enter 79 args) w:=enters_of func79 AR rfl
def TR:∀args w,(callFunc 77 args).run prog w = .ok (.enter 77 args) w:=enters_of func77 AR rfl
def TS:∀args w,(callFunc 80 args).run prog w = .ok (.enter 80 args) w:=enters_of func80 AR rfl
def Yi (c:UInt8) (r:lB) (w:wD) (hs:(c::r).length<=9223372036854775807) :
 Calls prog 44 #[str (c::r)] w λe w'=>e = .returned (.tuple #[.int .u8 (EL (c::r)).1,.int .i64 (EL (c::r)).2])/\w=w':=by
 have hf:EL (c::r)=if IG c then (1,II Jg (c::r)) else if Jf c then (2,II Jf (c::r)) else if Kv c then (4,II Kv (c::r)) else if c=35 then (5,II Pk (c::r)) else (3,La (c::r)):=rfl
 have HF:=fZ hf;clear hf
 have HS:=fZ hs;simp only [gH] at hs
 go_enter func44,ntmps44
 go_wp2_with fail
 refine (Pq c _).mono ?_;rintro e w1 ⟨rfl,rfl⟩
 cases hl:IG c
 . have HL:=fZ hl;clear hl
   simp only
   go_wp2_with fail
   refine (Oj c _).mono ?_;rintro e w1 ⟨rfl,rfl⟩
   cases hd:Jf c
   . have HD:=fZ hd;clear hd
     simp only
     go_wp2_with fail
     refine (SQ c _).mono ?_;rintro e w1 ⟨rfl,rfl⟩
     cases hb:Kv c
     . have HB:=fZ hb;clear hb
       simp only
       by_cases h35:c=35
       . have H35:=fZ h35
         have e35:(({ data:=(c::r).toArray }:ByteArray)[0]'(by simp [ByteArray.size])).toNat=35:=by show c.toNat=35;rw [h35];rfl
         clear h35
         go_wp2_with fail
         refine (Ol 80 Pk Yh TS _ _ HS.out).mono ?_;rintro e w1 ⟨rfl,rfl⟩;simp only
         go_wp2_with fail
         go_ret2
         rw [HF.out,HL.out,HD.out,HB.out,AT H35.out];exact ⟨rfl,rfl⟩
       . have H35:=fZ h35
         have e35:((({ data:=(c::r).toArray }:ByteArray)[0]'(by simp [ByteArray.size])).toNat:Int)≠35:=by
          show (c.toNat:Int)≠35
          intro h;apply h35;apply UInt8.toNat_inj.1;show c.toNat=35;omega
         clear h35
         go_wp2_with fail
         refine (aB c r _ HS.out).mono ?_;rintro e w1 ⟨rfl,rfl⟩;simp only
         go_wp2_with fail
         go_ret2
         rw [HF.out,HL.out,HD.out,HB.out,AC H35.out];exact ⟨rfl,rfl⟩
     . have HB:=fZ hb;clear hb
       simp only
       go_wp2_with fail
       refine (Ol 79 Kv SQ VH _ _ HS.out).mono ?_;rintro e w1 ⟨rfl,rfl⟩;simp only
       go_wp2_with fail
       go_ret2
       rw [HF.out,HL.out,HD.out,HB.out];exact ⟨rfl,rfl⟩
   . have HD:=fZ hd;clear hd
     simp only
     go_wp2_with fail
     refine (Ol 78 Jf Oj VG _ _ HS.out).mono ?_;rintro e w1 ⟨rfl,rfl⟩;simp only
     go_wp2_with fail
     go_ret2
     rw [HF.out,HL.out,HD.out];exact ⟨rfl,rfl⟩
 . have HL:=fZ hl;clear hl
   simp only
   go_wp2_with fail
   refine (Ol 77 Jg TP TR _ _ HS.out).mono ?_;rintro e w1 ⟨rfl,rfl⟩;simp only
   go_wp2_with fail
   go_ret2
   rw [HF.out,HL.out];exact ⟨rfl,rfl⟩
def IM (s:lB) (w:wD) (hs:s.length<=9223372036854775807) :
 Calls prog 23 #[str s] w λe w'=>e = .returned (.bool (Cl s))/\Ext w w':=by
 cases s with
 | nil=>
  go_enter func23,ntmps23
  go_wp2_with fail
  go_ret
  exact ⟨rfl,Ne _⟩
 | cons c r=>
  have hn:Cl (c::r)=(decide ((c::r).length<=16)&&((EL (c::r)).1==1)&&((EL (c::r)).2==(c::r).length) && !FH (c::r)):=by simp [Cl]
  have HN:=fZ hn;clear hn
  have HS:=fZ hs;simp only [gH] at hs
  by_cases h16:16<(c::r).length
  . simp only [gH] at h16
    have d1:decide ((16:Int)<(r.length:Int)+1)=true:=by simp;omega
    have H16:=fZ h16;clear h16
    go_enter func23,ntmps23
    go_wp2_with fail
    go_ret
    rw [HN.out]
    exact ⟨AZ (by have:=H16.out;simp;omega),Ne _⟩
  . simp only [gH] at h16
    have d1:decide ((16:Int)<(r.length:Int)+1)=false:=by simp;omega
    go_enter func23,ntmps23
    go_wp2_with fail
    refine (Yi c r _ HS.out).mono ?_;rintro e w1 ⟨rfl,rfl⟩
    generalize EL (c::r)=ft at *
    obtain ⟨k,n⟩:=ft
    by_cases hk:k=1
    . by_cases hl:n=(c::r).length
      . subst hk hl
        simp only [gH]
        go_wp2_with fail
        refine (TQ _ _ HS.out).mono ?_;rintro e w2 ⟨rfl,hx⟩;simp only
        go_wp2_with fail
        go_ret
        rw [HN.out]
        exact ⟨AZ (by simp;omega),hx⟩
      . subst hk
        have dl:((n:Int)==(r.length:Int)+1)=false:=by simp only [gH] at hl;rw [beq_eq_false_iff_ne];omega
        have HL:=fZ hl;clear hl
        simp only
        go_wp2_with fail
        go_ret
        rw [HN.out]
        exact ⟨AZ (by have:=HL.out;simp at this ⊢;simp [this]),Ne _⟩
    . have dk:((k:Int)==1)=false:=by rw [beq_eq_false_iff_ne];omega
      have HK:=fZ hk;clear hk
      simp only
      go_wp2_with fail
      go_ret
      rw [HN.out]
      exact ⟨AZ (by have:=HK.out;simp [this]),Ne _⟩
def GB (k n:Int) (s:lB) (a:oA) (l c:Nat) (w:wD) :
 Calls prog 169 #[.agg #[.int .u8 k,.int .i64 n,str s,.slice a l c]] w λe w'=>e = .returned (.bool (plain n s))/\Ext w w':=by
 go_enter func169,ntmps169
 go_wp2_with fail
 all_goals go_ret
 all_goals exact ⟨AZ (by unfold plain;simp [*]),(by repeat (first|exact Ne _|assumption|refine mz ?_ _|refine mH ?_|refine mA ?_ ‹_›))⟩
def Hy (k n:Int) (s:lB) (a:oA) (l c:Nat) (w:wD) (hs:s.length<=9223372036854775807) :
 Calls prog 201 #[.agg #[.int .u8 k,.int .i64 n,str s,.slice a l c]] w λe w'=>e = .returned (.bool (named n s))/\Ext w w':=by
 by_cases h0:n=0
 . subst h0
   go_enter func201,ntmps201
   go_wp2_with (go_at_call 23;refine (IM _ _ hs).mono ?_;rintro e w2 ⟨rfl,hx⟩)
   go_ret
   exact ⟨AZ (by simp [named]),(by refine mA ?_ ‹_›;refine mz ?_ _;exact Ne _)⟩
 . have d0:(n==0)=false:=by simp [h0]
   go_enter func201,ntmps201
   go_wp2_with fail
   go_ret
   exact ⟨AZ (by simp [named,h0]),(by refine mz ?_ _;exact Ne _)⟩
def DX (S:nP) (f:FuncId) (p:Nd->Bool) (t:Nd):Prop:=
 ∀(a:oA) (c:Nat) (w:wD),t.sits S w a->Calls prog f #[t.val a c] w λe w'=>e = .returned (.bool (p t))/\Ext w w'
def GC (f:FuncId):Prop:= ∀args w,(callFunc f args).run prog w = .ok (.enter f args) w
def SR (f:FuncId) (p:Nd->Bool) (he:GC f) (l:List Nd) (a:oA) (c:Nat) (S:nP) (w:wD) (hl:l.length<=9223372036854775807) (hs:rowSits S w l a) (ht:∀t∈l,DX S f p t) :
 Calls prog 170 #[.slice a l.length c,.func (.func f) #[] #[]] w λe w'=>e = .returned (.bool (l.all p))/\Ext w w':=by
 have HT:=fZ ht;clear ht
 unfold GC at he
 go_enter func170,ntmps170
 go_wp2_with fail
 go_loopw [9] (λi wr=> ∃j:Nat,j<=l.length/\i = .int .i64 j/\Hid (l.all p=(l.drop j).all p)/\Ext w wr) (λi _=>l.length-(RowKit.intOf i).toNat)
 case atStart=>exact ⟨0,gI _,rfl,fZ rfl,Ne _⟩
 case round=>
  obtain ⟨j,hj,rfl,HJ,hx⟩:=hrel
  by_cases hlt:j<l.length
  . have hg:l[j]? = some l[j]:=fY hlt
    have hmem:l[j]∈l:=gK hlt;have hdrop:=gW hlt
    generalize l[j]=t at *
    obtain ⟨b,o,a',c',rfl,hSb,g0,g1,g2,g3,hsk⟩:=FC (hs.ext hx) hg
    have HG:=fZ hg;clear hg
    have hall:l.all p=(p t&&(l.drop (j+1)).all p):=by rw [HJ.out,hdrop,lF]
    have HA:=fZ hall;clear hdrop hall
    go_wp2_with fail
    refine (HT.out t hmem a' c' _ (hsk.ext ((Ne _).alloc _))).mono ?_;rintro e w1 ⟨rfl,hx1⟩
    cases hp:p t
    . have HP:=fZ hp;clear hp
      simp only
      go_wp2_with fail
      go_ret
      rw [HA.out,HP.out]
      exact ⟨rfl,(by say "0:B";repeat (first|(say "0:(EXC0";exact Ne _;say "0:)EXC0")|(say "0:(EXC1";assumption;say "0:)EXC1")|(say "0:(EXC2";refine mz ?_ _;say "0:)EXC2")|(say "0:(EXC3";refine mH ?_;say "0:)EXC3")|(say "0:(EXC4";refine mA ?_ ‹_›;say "0:)EXC4")))⟩
    . have HP:=fZ hp;clear hp
      simp only
      go_wp2_with fail
      go_roundw
      case rel=>exact ⟨j+1,by omega,by go_num,fZ (by rw [HA.out,HP.out];simp),(by say "1:B";repeat (first|(say "1:(EXC0";exact Ne _;say "1:)EXC0")|(say "1:(EXC1";assumption;say "1:)EXC1")|(say "1:(EXC2";refine mz ?_ _;say "1:)EXC2")|(say "1:(EXC3";refine mH ?_;say "1:)EXC3")|(say "1:(EXC4";refine mA ?_ ‹_›;say "1:)EXC4")))⟩
      case measure=>simp [RowKit.intOf];omega
  . go_wp2_with fail
    go_ret
    rw [HJ.out,iZ (by omega)]
    exact ⟨rfl,hx⟩
def B9:List Nd->List (FuncId×(Nd->Bool))->Bool
 | [],[]=>true
 | t::r,f::fs=>f.2 t&&B9 r fs
 | _,_=>false
def LB:∀(l:List Nd) (G:List (FuncId×(Nd->Bool))),l.length≠G.length->B9 l G=false
 | [],[],h=>absurd rfl h
 | [],_::_,_=>rfl
 | _::_,[],_=>rfl
 | t::r,f::G,h=>by simp only [B9];rw [LB r G (by simpa using h)];simp
def FR (k n:Int) (s:lB) (l:List Nd) (a:oA) (c:Nat) (fs:List (FuncId×(Nd->Bool))) (tb tc:Nat) (S:nP) (w:wD)
 (hl:l.length<=9223372036854775807) (hfl:fs.length<=100) (hs:rowSits S w l a)
 (htb:∀i f,fs[i]? = some f->w.cell? ⟨tb,i,none⟩=some (.func (.func f.1) #[] #[])) (he:∀f∈fs,GC f.1) (ht:∀f∈fs,∀t∈l,DX S f.1 f.2 t) :
 Calls prog 198 #[.agg #[.int .u8 k,.int .i64 n,str s,.slice a l.length c],.slice (some ⟨tb,0,none⟩) fs.length tc] w λe w'=>e = .returned (.bool (B9 l fs))/\Ext w w':=by
 have HT:=fZ ht;clear ht
 have HE:=fZ he;clear he
 have HB:=fZ htb;clear htb
 by_cases hlen:l.length=fs.length
 . have dn:((l.length:Int) != (fs.length:Int))=false:=by rw [hlen];simp
   have HL:=fZ hlen
   have hlen1:l.length<=fs.length:=by omega
   have hlen2:fs.length<=l.length:=by omega
   clear hlen
   go_enter func198,ntmps198
   go_wp2_with fail
   go_loopw [15] (λi wr=> ∃j:Nat,j<=fs.length/\i = .int .i64 j/\Hid (B9 l fs=B9 (l.drop j) (fs.drop j))/\Ext (w.alloc (.cells #[.int .u8 k,.int .i64 n,str s,.slice a l.length c] 29)) wr) (λi _=>fs.length-(RowKit.intOf i).toNat)
   case atStart=>exact ⟨0,gI _,rfl,fZ rfl,Ne _⟩
   case round=>
    obtain ⟨j,hj,rfl,HJ,hx⟩:=hrel;have hcs:=hx.cells
    by_cases hlt:j<fs.length
    . have hlt':j<l.length:=by omega
      have hg:l[j]? = some l[j]:=fY hlt';have hmem:l[j]∈l:=gK hlt';have hdrop:=gW hlt';have hgf:fs[j]? = some fs[j]:=fY hlt;have hmemf:fs[j]∈fs:=gK hlt;have hdropf:=gW hlt
      generalize l[j]=t at *
      generalize fs[j]=f at *
      have hxx:Ext w wr:=mA ((Ne _).alloc _) hx;obtain ⟨b,o,a',c',rfl,hSb,g0,g1,g2,g3,hsk⟩:=FC (hs.ext hxx) hg
      have HG:=fZ hg;clear hg
      have ht0:=hxx.keep (HB.out j f hgf)
      have HGF:=fZ hgf;clear hgf
      have hall:B9 l fs=(f.2 t&&B9 (l.drop (j+1)) (fs.drop (j+1))):=by rw [HJ.out,hdrop,hdropf];rfl
      have HA:=fZ hall;clear hdrop hall hdropf
      have hen:=HE.out f hmemf
      unfold GC at hen
      go_wp2_with fail
      refine (HT.out f hmemf t hmem a' c' _ hsk).mono ?_;rintro e w1 ⟨rfl,hx1⟩
      cases hp:f.2 t
      . have HP:=fZ hp;clear hp
        simp only
        go_wp2_with fail
        go_ret
        rw [HA.out,HP.out]
        exact ⟨rfl,(by say "2:B";repeat (first|(say "2:(EXC0";exact Ne _;say "2:)EXC0")|(say "2:(EXC1";assumption;say "2:)EXC1")|(say "2:(EXC2";refine mz ?_ _;say "2:)EXC2")|(say "2:(EXC3";refine mH ?_;say "2:)EXC3")|(say "2:(EXC4";refine mA ?_ ‹_›;say "2:)EXC4")))⟩
      . have HP:=fZ hp;clear hp
        simp only
        go_wp2_with fail
        go_roundw
        case rel=>exact ⟨j+1,by omega,by go_num,fZ (by rw [HA.out,HP.out];simp),(by say "3:B";repeat (first|(say "3:(EXC0";exact Ne _;say "3:)EXC0")|(say "3:(EXC1";assumption;say "3:)EXC1")|(say "3:(EXC2";refine mz ?_ _;say "3:)EXC2")|(say "3:(EXC3";refine mH ?_;say "3:)EXC3")|(say "3:(EXC4";refine mA ?_ ‹_›;say "3:)EXC4")))⟩
        case measure=>simp [RowKit.intOf];omega
    . go_wp2_with fail
      go_ret
      rw [HJ.out,iZ (by omega),iZ (by omega)]
      exact ⟨rfl,(by say "4:B";repeat (first|(say "4:(EXC0";exact Ne _;say "4:)EXC0")|(say "4:(EXC1";assumption;say "4:)EXC1")|(say "4:(EXC2";refine mz ?_ _;say "4:)EXC2")|(say "4:(EXC3";refine mH ?_;say "4:)EXC3")|(say "4:(EXC4";refine mA ?_ ‹_›;say "4:)EXC4")))⟩
 . have dn:((l.length:Int) != (fs.length:Int))=true:=by rw [bne_iff_ne];omega
   have hk:=LB l fs hlen
   have HK:=fZ hk;clear hk hlen
   go_enter func198,ntmps198
   go_wp2_with fail
   go_ret
   rw [HK.out]
   exact ⟨rfl,(by say "5:B";repeat (first|(say "5:(EXC0";exact Ne _;say "5:)EXC0")|(say "5:(EXC1";assumption;say "5:)EXC1")|(say "5:(EXC2";refine mz ?_ _;say "5:)EXC2")|(say "5:(EXC3";refine mH ?_;say "5:)EXC3")|(say "5:(EXC4";refine mA ?_ ‹_›;say "5:)EXC4")))⟩
def VI {Q:Nat->α->Prop} {x:α} (h:Q 0 x):∀i f,[x][i]? = some f->Q i f:=by
 intro i f G;rcases i with _|i
 . simp at G;exact G▸h
 . simp at G
def aD {Q:Nat->α->Prop} {x y:α} (h:Q 0 x) (M:Q 1 y):∀i f,[x,y][i]? = some f->Q i f:=by
 intro i f G;rcases i with _|_|i
 . simp at G;exact G▸h
 . simp at G;exact G▸M
 . simp at G
def eG {Q:Nat->α->Prop} {x y z:α} (h:Q 0 x) (M:Q 1 y) (N:Q 2 z):∀i f,[x,y,z][i]? = some f->Q i f:=by
 intro i f G;rcases i with _|_|_|i
 . simp at G;exact G▸h
 . simp at G;exact G▸M
 . simp at G;exact G▸N
 . simp at G
def eH {Q:Nat->α->Prop} {x y z u:α} (h:Q 0 x) (M:Q 1 y) (N:Q 2 z) (O:Q 3 u):∀i f,[x,y,z,u][i]? = some f->Q i f:=by
 intro i f G;rcases i with _|_|_|_|i
 . simp at G;exact G▸h
 . simp at G;exact G▸M
 . simp at G;exact G▸N
 . simp at G;exact G▸O
 . simp at G
def MZ {Q:α->Prop} {x:α} (h:Q x):∀f∈[x],Q f:=by intro f G;simp at G;exact G▸h
def TU {Q:α->Prop} {x y:α} (h:Q x) (M:Q y):∀f∈[x,y],Q f:=by
 intro f G;simp at G;rcases G with rfl|rfl<;>assumption
def cU {Q:α->Prop} {x y z:α} (h:Q x) (M:Q y) (N:Q z):∀f∈[x,y,z],Q f:=by
 intro f G;simp at G;rcases G with rfl|rfl|rfl<;>assumption
def cV {Q:α->Prop} {x y z u:α} (h:Q x) (M:Q y) (N:Q z) (O:Q u):∀f∈[x,y,z,u],Q f:=by
 intro f G;simp at G;rcases G with rfl|rfl|rfl|rfl<;>assumption
def DD:GC 200:=enters_of func200 AR rfl
def Pv (n:Int) (s:lB) (l:List Nd):(Nd.mk 1 n s l).isExpr=(decide (0<=n)&&s.isEmpty&&l.isEmpty):=by rw [Nd.isExpr.eq_def];simp
def PA (k n:Int) (s:lB) (l:List Nd) (h:k=2\/k=4\/k=5):(Nd.mk k n s l).isExpr=(named n s&&l.isEmpty):=by
 rcases h with rfl|rfl|rfl<;>rw [Nd.isExpr.eq_def]<;>simp
def PB (f:FuncId) (n:Int) (s:lB) (l:List Nd):(Nd.mk 3 n s l).isExpr=(named n s&&B9 l [(f,mK)]):=by
 rcases l with _|⟨x,_|⟨y,l⟩⟩<;>rw [Nd.isExpr.eq_def]<;>simp [B9]
def TV (f:FuncId) (k n:Int) (s:lB) (l:List Nd) (h:k=6\/k=7):(Nd.mk k n s l).isExpr=(plain n s&&B9 l [(f,mK)]):=by
 rcases l with _|⟨x,_|⟨y,l⟩⟩<;>rcases h with rfl|rfl<;>rw [Nd.isExpr.eq_def]<;>simp [B9]
def Rx (f:FuncId) (k n:Int) (s:lB) (l:List Nd) (h:8<=k) (G:k<=23):(Nd.mk k n s l).isExpr=(plain n s&&B9 l [(f,mK),(f,mK)]):=by
 have M:¬k=1:=by omega
 have N:¬(k=2\/k=4\/k=5):=by omega
 have O:¬k=3:=by omega
 have U:¬(k=6\/k=7):=by omega
 rcases l with _|⟨x,_|⟨y,_|⟨z,l⟩⟩⟩<;>rw [Nd.isExpr.eq_def]<;>simp [B9,M,N,O,U,h,G]
def PC (k n:Int) (s:lB) (l:List Nd) (h:k<1\/23<k):(Nd.mk k n s l).isExpr=false:=by
 have G:¬k=1:=by omega
 have M:¬(k=2\/k=4\/k=5):=by omega
 have N:¬k=3:=by omega
 have O:¬(k=6\/k=7):=by omega
 have U:¬(8<=k/\k<=23):=by omega
 rw [Nd.isExpr.eq_def];simp [G,M,N,O,U]
def VJ (S:nP) (N:Nat):∀t:Nd,t.size<N->t.wf->DX S 200 mK t:=by
 induction N with
 | zero=>intro t h;omega
 | succ N ih=>
  rintro ⟨k,n,s,l⟩ hN hwf a c w hs;simp only [Nd.wf,mF,m6,mY,Nd.num,mQ,nb,Nd.val] at *;obtain ⟨hk0,hk1,hn0,hn1,hsl,hll,hrw⟩:=hwf
  have hkid:∀t∈l,DX S 200 mK t:=λt ht=>ih t (by have:=D4 ht;omega) (BN hrw t ht)
  have HKID:=fZ hkid;clear hkid ih hrw
  have HSL:=fZ hsl;clear hsl
  by_cases c1:k=1
  . subst c1
    have hr:=Pv n s l
    have HR:=fZ hr;clear hr
    go_enter func200,ntmps200
    go_wp2_with fail
    all_goals go_ret
    all_goals rw [HR.out]
    all_goals exact ⟨AZ (by rw [jV];first|(simp [*];done)|(simp [*];intros;omega)),(by repeat (first|exact Ne _|assumption|refine mz ?_ _|refine mH ?_|refine mA ?_ ‹_›))⟩
  by_cases c2:k=2\/k=4\/k=5
  . have hr:=PA k n s l c2
    have HR:=fZ hr;clear hr
    cases hnm:named n s
    all_goals have HNM:=fZ hnm;clear hnm
    all_goals rcases c2 with rfl|rfl|rfl
    all_goals go_enter func200,ntmps200
    all_goals go_wp2_with (go_at_call 201;refine (Hy _ _ _ _ _ _ _ HSL.out).mono ?_;rintro e w1 ⟨rfl,hx1⟩;have hc1:=hx1.cells;rw [HNM.out])
    all_goals go_ret
    all_goals rw [HR.out,HNM.out]
    all_goals exact ⟨AZ (by first|rfl|(rw [jV];simp)),(by repeat (first|exact Ne _|assumption|refine mz ?_ _|refine mH ?_|refine mA ?_ ‹_›))⟩
  by_cases c3:k=3
  . subst c3
    have hr:=PB 200 n s l
    have HR:=fZ hr;clear hr
    cases hnm:named n s
    all_goals have HNM:=fZ hnm;clear hnm
    all_goals go_enter func200,ntmps200
    all_goals go_wp2_with (first|(go_at_call 201;refine (Hy _ _ _ _ _ _ _ HSL.out).mono ?_;rintro e w1 ⟨rfl,hx1⟩;have hc1:=hx1.cells;rw [HNM.out])|(go_at_call 198;refine (FR _ _ _ l a c [(200,mK)] _ _ S _ hll (by decide) (hs.ext (by refine mz ?_ _;refine mA ?_ ‹_›;refine mz ?_ _;exact Ne _)) (VI (by go_simp)) (MZ DD) (MZ HKID.out)).mono ?_;rintro e w2 ⟨rfl,hx2⟩))
    all_goals go_ret
    all_goals rw [HR.out,HNM.out]
    all_goals exact ⟨AZ (by simp),(by repeat (first|exact Ne _|assumption|refine mz ?_ _|refine mH ?_|refine mA ?_ ‹_›))⟩
  by_cases c4:k=6\/k=7
  . have hr:=TV 200 k n s l c4
    have HR:=fZ hr;clear hr
    cases hnm:plain n s
    all_goals have HNM:=fZ hnm;clear hnm
    all_goals rcases c4 with rfl|rfl
    all_goals go_enter func200,ntmps200
    all_goals go_wp2_with (first|(go_at_call 169;refine (GB _ _ _ _ _ _ _).mono ?_;rintro e w1 ⟨rfl,hx1⟩;have hc1:=hx1.cells;rw [HNM.out])|(go_at_call 198;refine (FR _ _ _ l a c [(200,mK)] _ _ S _ hll (by decide) (hs.ext (by repeat (first|exact Ne _|assumption|refine mz ?_ _|refine mH ?_|refine mA ?_ ‹_›))) (VI (by go_simp)) (MZ DD) (MZ HKID.out)).mono ?_;rintro e w2 ⟨rfl,hx2⟩))
    all_goals go_ret
    all_goals rw [HR.out,HNM.out]
    all_goals exact ⟨AZ (by simp),(by repeat (first|exact Ne _|assumption|refine mz ?_ _|refine mH ?_|refine mA ?_ ‹_›))⟩
  by_cases c5:8<=k/\k<=23
  . obtain ⟨c5a,c5b⟩:=c5
    have d1:(k==1)=false:=by rw [beq_eq_false_iff_ne];omega
    have d2:(k==2)=false:=by rw [beq_eq_false_iff_ne];omega
    have d3:(k==3)=false:=by rw [beq_eq_false_iff_ne];omega
    have d4:(k==4)=false:=by rw [beq_eq_false_iff_ne];omega
    have d5:(k==5)=false:=by rw [beq_eq_false_iff_ne];omega
    have d6:(k==6)=false:=by rw [beq_eq_false_iff_ne];omega
    have d7:(k==7)=false:=by rw [beq_eq_false_iff_ne];omega
    clear c1 c2 c3 c4;have hr:=Rx 200 k n s l c5a c5b
    have HR:=fZ hr;clear hr
    cases hnm:plain n s
    all_goals have HNM:=fZ hnm;clear hnm
    all_goals go_enter func200,ntmps200
    all_goals go_wp2_with (first|(go_at_call 169;refine (GB _ _ _ _ _ _ _).mono ?_;rintro e w1 ⟨rfl,hx1⟩;have hc1:=hx1.cells;rw [HNM.out])|(go_at_call 198;refine (FR _ _ _ l a c [(200,mK),(200,mK)] _ _ S _ hll (by decide) (hs.ext (by refine mz ?_ _;refine mA ?_ ‹_›;refine mz ?_ _;exact Ne _)) (aD (by go_simp) (by go_simp)) (TU DD DD) (TU HKID.out HKID.out)).mono ?_;rintro e w2 ⟨rfl,hx2⟩))
    all_goals go_ret
    all_goals rw [HR.out,HNM.out]
    all_goals exact ⟨AZ (by simp),(by repeat (first|exact Ne _|assumption|refine mz ?_ _|refine mH ?_|refine mA ?_ ‹_›))⟩
  . have hr:=PC k n s l (by omega)
    have HR:=fZ hr;clear hr
    have d1:(k==1)=false:=by rw [beq_eq_false_iff_ne];omega
    have d2:(k==2)=false:=by rw [beq_eq_false_iff_ne];omega
    have d3:(k==3)=false:=by rw [beq_eq_false_iff_ne];omega
    have d4:(k==4)=false:=by rw [beq_eq_false_iff_ne];omega
    have d5:(k==5)=false:=by rw [beq_eq_false_iff_ne];omega
    have d6:(k==6)=false:=by rw [beq_eq_false_iff_ne];omega
    have d7:(k==7)=false:=by rw [beq_eq_false_iff_ne];omega
    clear c1 c2 c3 c4
    go_enter func200,ntmps200
    go_wp2_with fail
    all_goals go_ret
    all_goals rw [HR.out]
    all_goals exact ⟨AZ (by first|rfl|(simp;omega)),(by repeat (first|exact Ne _|assumption|refine mz ?_ _|refine mH ?_|refine mA ?_ ‹_›))⟩
def Fl:GC 199:=enters_of func199 AR rfl
def VK:GC 202:=enters_of func202 AR rfl
def TX:GC 171:=enters_of func171 AR rfl
def GD:GC 140:=enters_of func140 AR rfl
def Fm (S:nP) (t:Nd) (h:t.wf):DX S 200 mK t:=VJ S (t.size+1) t Ab h
def Gc (S:nP) (t:Nd) (h:t.wf):DX S 199 mP t:=by
 have HE:=fZ (Fm S t h);intro a c w hs;obtain ⟨k,n,s,l⟩:=t;have hr:(Nd.mk k n s l).isPlace=((k==2||k==3)&&(Nd.mk k n s l).isExpr):=rfl
 have HR:=fZ hr;clear hr
 have HSI:=fZ hs;clear hs h
 simp only [mY,Nd.num,mQ,nb,Nd.val]
 by_cases h2:k=2\/k=3
 . rcases h2 with rfl|rfl
   all_goals go_enter func199,ntmps199
   all_goals go_wp2_with (go_at_call 200;refine (HE.out a c _ (HSI.out.ext (by repeat (first|exact Ne _|assumption|refine mz ?_ _|refine mH ?_|refine mA ?_ ‹_›)))).mono ?_;rintro e w1 ⟨rfl,hx1⟩)
   all_goals go_ret
   all_goals rw [HR.out]
   all_goals exact ⟨AZ (by simp),(by repeat (first|exact Ne _|assumption|refine mz ?_ _|refine mH ?_|refine mA ?_ ‹_›))⟩
 . have d2:(k==2)=false:=by rw [beq_eq_false_iff_ne];omega
   have d3:(k==3)=false:=by rw [beq_eq_false_iff_ne];omega
   clear h2
   go_enter func199,ntmps199
   go_wp2_with fail
   go_ret
   rw [HR.out]
   exact ⟨AZ (by simp [d2,d3]),(by refine mz ?_ _;exact Ne _)⟩
def Yj (S:nP) (t:Nd) (h:t.wf):DX S 202 Nd.isVar t:=by
 have HE:=fZ (Fm S t h);intro a c w hs;obtain ⟨k,n,s,l⟩:=t;have hr:(Nd.mk k n s l).isVar=(k==2&&(Nd.mk k n s l).isExpr):=rfl
 have HR:=fZ hr;clear hr
 have HSI:=fZ hs;clear hs h
 simp only [mY,Nd.num,mQ,nb,Nd.val]
 by_cases h2:k=2
 . subst h2
   go_enter func202,ntmps202
   go_wp2_with (go_at_call 200;refine (HE.out a c _ (HSI.out.ext (by refine mz ?_ _;exact Ne _))).mono ?_;rintro e w1 ⟨rfl,hx1⟩)
   go_ret
   rw [HR.out]
   exact ⟨AZ (by simp),(by refine mA ?_ ‹_›;refine mz ?_ _;exact Ne _)⟩
 . have d2:(k==2)=false:=by rw [beq_eq_false_iff_ne];omega
   clear h2
   go_enter func202,ntmps202
   go_wp2_with fail
   go_ret
   rw [HR.out]
   exact ⟨AZ (by simp [d2]),(by refine mz ?_ _;exact Ne _)⟩
def TY (h:k=40\/k=41\/k=42\/k=56) (n:Int) (s:lB) (l:List Nd):(Nd.mk k n s l).isStmt=(plain n s&&B9 l [(199,mP),(200,mK)]):=by
 rcases h with rfl|rfl|rfl|rfl<;>rcases l with _|⟨x,_|⟨y,_|⟨z,_|⟨u,_|⟨v,l⟩⟩⟩⟩⟩<;>rw [Nd.isStmt.eq_def]<;>simp [B9,kZ]
def TZ (hk:k=40\/k=41\/k=42\/k=56) (n:Int) (s:lB) (l:List Nd) (a:oA) (c:Nat) (S:nP) (w:wD)
 (hs:rowSits S w l a) (hsl:s.length<=9223372036854775807) (hll:l.length<=9223372036854775807) (hrw:CO l) :
 Calls prog 171 #[.agg #[.int .u8 k,.int .i64 n,str s,.slice a l.length c]] w λe w'=>e = .returned (.bool (Nd.mk k n s l).isStmt)/\Ext w w':=by
 have HEX:=fZ λt (ht:t∈l)=>Fm S t (BN hrw t ht)
 have HPL:=fZ λt (ht:t∈l)=>Gc S t (BN hrw t ht)
 have HSL:=fZ hsl;clear hsl hrw
 have hr:=TY hk n s l
 have HR:=fZ hr;clear hr
 cases hnm:plain n s
 all_goals have HNM:=fZ hnm;clear hnm
 all_goals rcases hk with rfl|rfl|rfl|rfl
 all_goals go_enter func171,ntmps171
 all_goals go_wp2_with (first|(go_at_call 169;refine (GB _ _ _ _ _ _ _).mono ?_;rintro e w1 ⟨rfl,hx1⟩;have hc1:=hx1.cells;rw [HNM.out])|(go_at_call 198;refine (FR _ _ _ l a c [(199,mP),(200,mK)] _ _ S _ hll (by decide) (hs.ext (by repeat (first|exact Ne _|assumption|refine mz ?_ _|refine mH ?_|refine mA ?_ ‹_›))) (aD (by go_simp) (by go_simp)) (TU Fl DD) (TU HPL.out HEX.out)).mono ?_;rintro e w2 ⟨rfl,hx2⟩))
 all_goals go_ret
 all_goals rw [HR.out,HNM.out]
 all_goals exact ⟨AZ (by simp),(by repeat (first|exact Ne _|assumption|refine mz ?_ _|refine mH ?_|refine mA ?_ ‹_›))⟩
def T0 (h:k=43) (n:Int) (s:lB) (l:List Nd):(Nd.mk k n s l).isStmt=(plain n s&&B9 l [(199,mP),(199,mP)]):=by
 rcases h with rfl<;>rcases l with _|⟨x,_|⟨y,_|⟨z,_|⟨u,_|⟨v,l⟩⟩⟩⟩⟩<;>rw [Nd.isStmt.eq_def]<;>simp [B9,kZ]
def T1 (hk:k=43) (n:Int) (s:lB) (l:List Nd) (a:oA) (c:Nat) (S:nP) (w:wD)
 (hs:rowSits S w l a) (hsl:s.length<=9223372036854775807) (hll:l.length<=9223372036854775807) (hrw:CO l) :
 Calls prog 171 #[.agg #[.int .u8 k,.int .i64 n,str s,.slice a l.length c]] w λe w'=>e = .returned (.bool (Nd.mk k n s l).isStmt)/\Ext w w':=by
 have HPL:=fZ λt (ht:t∈l)=>Gc S t (BN hrw t ht)
 have HSL:=fZ hsl;clear hsl hrw
 have hr:=T0 hk n s l
 have HR:=fZ hr;clear hr
 cases hnm:plain n s
 all_goals have HNM:=fZ hnm;clear hnm
 all_goals rcases hk with rfl
 all_goals go_enter func171,ntmps171
 all_goals go_wp2_with (first|(go_at_call 169;refine (GB _ _ _ _ _ _ _).mono ?_;rintro e w1 ⟨rfl,hx1⟩;have hc1:=hx1.cells;rw [HNM.out])|(go_at_call 198;refine (FR _ _ _ l a c [(199,mP),(199,mP)] _ _ S _ hll (by decide) (hs.ext (by refine mz ?_ _;refine mA ?_ ‹_›;refine mz ?_ _;exact Ne _)) (aD (by go_simp) (by go_simp)) (TU Fl Fl) (TU HPL.out HPL.out)).mono ?_;rintro e w2 ⟨rfl,hx2⟩))
 all_goals go_ret
 all_goals rw [HR.out,HNM.out]
 all_goals exact ⟨AZ (by simp),(by repeat (first|exact Ne _|assumption|refine mz ?_ _|refine mH ?_|refine mA ?_ ‹_›))⟩
def T2 (h:k=44\/k=45) (n:Int) (s:lB) (l:List Nd):(Nd.mk k n s l).isStmt=(named n s&&B9 l [(199,mP)]):=by
 rcases h with rfl|rfl<;>rcases l with _|⟨x,_|⟨y,_|⟨z,_|⟨u,_|⟨v,l⟩⟩⟩⟩⟩<;>rw [Nd.isStmt.eq_def]<;>simp [B9,kZ]
def T3 (hk:k=44\/k=45) (n:Int) (s:lB) (l:List Nd) (a:oA) (c:Nat) (S:nP) (w:wD)
 (hs:rowSits S w l a) (hsl:s.length<=9223372036854775807) (hll:l.length<=9223372036854775807) (hrw:CO l) :
 Calls prog 171 #[.agg #[.int .u8 k,.int .i64 n,str s,.slice a l.length c]] w λe w'=>e = .returned (.bool (Nd.mk k n s l).isStmt)/\Ext w w':=by
 have HPL:=fZ λt (ht:t∈l)=>Gc S t (BN hrw t ht)
 have HSL:=fZ hsl;clear hsl hrw
 have hr:=T2 hk n s l
 have HR:=fZ hr;clear hr
 cases hnm:named n s
 all_goals have HNM:=fZ hnm;clear hnm
 all_goals rcases hk with rfl|rfl
 all_goals go_enter func171,ntmps171
 all_goals go_wp2_with (first|(go_at_call 201;refine (Hy _ _ _ _ _ _ _ HSL.out).mono ?_;rintro e w1 ⟨rfl,hx1⟩;have hc1:=hx1.cells;rw [HNM.out])|(go_at_call 198;refine (FR _ _ _ l a c [(199,mP)] _ _ S _ hll (by decide) (hs.ext (by repeat (first|exact Ne _|assumption|refine mz ?_ _|refine mH ?_|refine mA ?_ ‹_›))) (VI (by go_simp)) (MZ Fl) (MZ HPL.out)).mono ?_;rintro e w2 ⟨rfl,hx2⟩))
 all_goals go_ret
 all_goals rw [HR.out,HNM.out]
 all_goals exact ⟨AZ (by simp),(by repeat (first|exact Ne _|assumption|refine mz ?_ _|refine mH ?_|refine mA ?_ ‹_›))⟩
def T4 (h:k=46\/k=47\/k=48\/k=49) (n:Int) (s:lB) (l:List Nd):(Nd.mk k n s l).isStmt=(plain n s&&B9 l [(199,mP)]):=by
 rcases h with rfl|rfl|rfl|rfl<;>rcases l with _|⟨x,_|⟨y,_|⟨z,_|⟨u,_|⟨v,l⟩⟩⟩⟩⟩<;>rw [Nd.isStmt.eq_def]<;>simp [B9,kZ]
def T5 (hk:k=46\/k=47\/k=48\/k=49) (n:Int) (s:lB) (l:List Nd) (a:oA) (c:Nat) (S:nP) (w:wD)
 (hs:rowSits S w l a) (hsl:s.length<=9223372036854775807) (hll:l.length<=9223372036854775807) (hrw:CO l) :
 Calls prog 171 #[.agg #[.int .u8 k,.int .i64 n,str s,.slice a l.length c]] w λe w'=>e = .returned (.bool (Nd.mk k n s l).isStmt)/\Ext w w':=by
 have HPL:=fZ λt (ht:t∈l)=>Gc S t (BN hrw t ht)
 have HSL:=fZ hsl;clear hsl hrw
 have hr:=T4 hk n s l
 have HR:=fZ hr;clear hr
 cases hnm:plain n s
 all_goals have HNM:=fZ hnm;clear hnm
 all_goals rcases hk with rfl|rfl|rfl|rfl
 all_goals go_enter func171,ntmps171
 all_goals go_wp2_with (first|(go_at_call 169;refine (GB _ _ _ _ _ _ _).mono ?_;rintro e w1 ⟨rfl,hx1⟩;have hc1:=hx1.cells;rw [HNM.out])|(go_at_call 198;refine (FR _ _ _ l a c [(199,mP)] _ _ S _ hll (by decide) (hs.ext (by repeat (first|exact Ne _|assumption|refine mz ?_ _|refine mH ?_|refine mA ?_ ‹_›))) (VI (by go_simp)) (MZ Fl) (MZ HPL.out)).mono ?_;rintro e w2 ⟨rfl,hx2⟩))
 all_goals go_ret
 all_goals rw [HR.out,HNM.out]
 all_goals exact ⟨AZ (by simp),(by repeat (first|exact Ne _|assumption|refine mz ?_ _|refine mH ?_|refine mA ?_ ‹_›))⟩
def T6 (h:k=52\/k=53) (n:Int) (s:lB) (l:List Nd):(Nd.mk k n s l).isStmt=(plain n s&&B9 l [(200,mK),(140,mL),(140,mL),(200,mK)]):=by
 rcases h with rfl|rfl<;>rcases l with _|⟨x,_|⟨y,_|⟨z,_|⟨u,_|⟨v,l⟩⟩⟩⟩⟩<;>rw [Nd.isStmt.eq_def]<;>simp [B9,kZ]
def T7 (hk:k=52\/k=53) (n:Int) (s:lB) (l:List Nd) (a:oA) (c:Nat) (S:nP) (w:wD)
 (hs:rowSits S w l a) (hsl:s.length<=9223372036854775807) (hll:l.length<=9223372036854775807) (hrw:CO l) (hb:∀t∈l,DX S 140 mL t) :
 Calls prog 171 #[.agg #[.int .u8 k,.int .i64 n,str s,.slice a l.length c]] w λe w'=>e = .returned (.bool (Nd.mk k n s l).isStmt)/\Ext w w':=by
 have HBL:=fZ hb;clear hb
 have HEX:=fZ λt (ht:t∈l)=>Fm S t (BN hrw t ht)
 have HSL:=fZ hsl;clear hsl hrw
 have hr:=T6 hk n s l
 have HR:=fZ hr;clear hr
 cases hnm:plain n s
 all_goals have HNM:=fZ hnm;clear hnm
 all_goals rcases hk with rfl|rfl
 all_goals go_enter func171,ntmps171
 all_goals go_wp2_with (first|(go_at_call 169;refine (GB _ _ _ _ _ _ _).mono ?_;rintro e w1 ⟨rfl,hx1⟩;have hc1:=hx1.cells;rw [HNM.out])|(go_at_call 198;refine (FR _ _ _ l a c [(200,mK),(140,mL),(140,mL),(200,mK)] _ _ S _ hll (by decide) (hs.ext (by repeat (first|exact Ne _|assumption|refine mz ?_ _|refine mH ?_|refine mA ?_ ‹_›))) (eH (by go_simp) (by go_simp) (by go_simp) (by go_simp)) (cV DD GD GD DD) (cV HEX.out HBL.out HBL.out HEX.out)).mono ?_;rintro e w2 ⟨rfl,hx2⟩))
 all_goals go_ret
 all_goals rw [HR.out,HNM.out]
 all_goals exact ⟨AZ (by simp),(by repeat (first|exact Ne _|assumption|refine mz ?_ _|refine mH ?_|refine mA ?_ ‹_›))⟩
def T8 (h:k=54) (n:Int) (s:lB) (l:List Nd):(Nd.mk k n s l).isStmt=(named n s&&B9 l [(200,mK),(140,mL),(200,mK)]):=by
 rcases h with rfl<;>rcases l with _|⟨x,_|⟨y,_|⟨z,_|⟨u,_|⟨v,l⟩⟩⟩⟩⟩<;>rw [Nd.isStmt.eq_def]<;>simp [B9,kZ]
def T9 (hk:k=54) (n:Int) (s:lB) (l:List Nd) (a:oA) (c:Nat) (S:nP) (w:wD)
 (hs:rowSits S w l a) (hsl:s.length<=9223372036854775807) (hll:l.length<=9223372036854775807) (hrw:CO l) (hb:∀t∈l,DX S 140 mL t) :
 Calls prog 171 #[.agg #[.int .u8 k,.int .i64 n,str s,.slice a l.length c]] w λe w'=>e = .returned (.bool (Nd.mk k n s l).isStmt)/\Ext w w':=by
 have HBL:=fZ hb;clear hb
 have HEX:=fZ λt (ht:t∈l)=>Fm S t (BN hrw t ht)
 have HSL:=fZ hsl;clear hsl hrw
 have hr:=T8 hk n s l
 have HR:=fZ hr;clear hr
 cases hnm:named n s
 all_goals have HNM:=fZ hnm;clear hnm
 all_goals rcases hk with rfl
 all_goals go_enter func171,ntmps171
 all_goals go_wp2_with (first|(go_at_call 201;refine (Hy _ _ _ _ _ _ _ HSL.out).mono ?_;rintro e w1 ⟨rfl,hx1⟩;have hc1:=hx1.cells;rw [HNM.out])|(go_at_call 198;refine (FR _ _ _ l a c [(200,mK),(140,mL),(200,mK)] _ _ S _ hll (by decide) (hs.ext (by refine mz ?_ _;refine mA ?_ ‹_›;refine mz ?_ _;exact Ne _)) (eG (by go_simp) (by go_simp) (by go_simp)) (cU DD GD DD) (cU HEX.out HBL.out HEX.out)).mono ?_;rintro e w2 ⟨rfl,hx2⟩))
 all_goals go_ret
 all_goals rw [HR.out,HNM.out]
 all_goals exact ⟨AZ (by simp),(by repeat (first|exact Ne _|assumption|refine mz ?_ _|refine mH ?_|refine mA ?_ ‹_›))⟩
def Ua (h:k=55) (n:Int) (s:lB) (l:List Nd):(Nd.mk k n s l).isStmt=(named n s&&B9 l [(140,mL)]):=by
 rcases h with rfl<;>rcases l with _|⟨x,_|⟨y,_|⟨z,_|⟨u,_|⟨v,l⟩⟩⟩⟩⟩<;>rw [Nd.isStmt.eq_def]<;>simp [B9,kZ]
def Ub (hk:k=55) (n:Int) (s:lB) (l:List Nd) (a:oA) (c:Nat) (S:nP) (w:wD)
 (hs:rowSits S w l a) (hsl:s.length<=9223372036854775807) (hll:l.length<=9223372036854775807) (hrw:CO l) (hb:∀t∈l,DX S 140 mL t) :
 Calls prog 171 #[.agg #[.int .u8 k,.int .i64 n,str s,.slice a l.length c]] w λe w'=>e = .returned (.bool (Nd.mk k n s l).isStmt)/\Ext w w':=by
 have HBL:=fZ hb;clear hb
 have HSL:=fZ hsl;clear hsl hrw
 have hr:=Ua hk n s l
 have HR:=fZ hr;clear hr
 cases hnm:named n s
 all_goals have HNM:=fZ hnm;clear hnm
 all_goals rcases hk with rfl
 all_goals go_enter func171,ntmps171
 all_goals go_wp2_with (first|(go_at_call 201;refine (Hy _ _ _ _ _ _ _ HSL.out).mono ?_;rintro e w1 ⟨rfl,hx1⟩;have hc1:=hx1.cells;rw [HNM.out])|(go_at_call 198;refine (FR _ _ _ l a c [(140,mL)] _ _ S _ hll (by decide) (hs.ext (by refine mz ?_ _;refine mA ?_ ‹_›;refine mz ?_ _;exact Ne _)) (VI (by go_simp)) (MZ GD) (MZ HBL.out)).mono ?_;rintro e w2 ⟨rfl,hx2⟩))
 all_goals go_ret
 all_goals rw [HR.out,HNM.out]
 all_goals exact ⟨AZ (by simp),(by repeat (first|exact Ne _|assumption|refine mz ?_ _|refine mH ?_|refine mA ?_ ‹_›))⟩
def Uc (h:k=50\/k=51) (n:Int) (s:lB) (l:List Nd):(Nd.mk k n s l).isStmt=(named n s&&decide (l.length<=8)&&l.all Nd.isVar):=by
 rcases h with rfl|rfl<;>rw [Nd.isStmt.eq_def]<;>simp
def Ud (hk:k=50\/k=51) (n:Int) (s:lB) (l:List Nd) (a:oA) (c:Nat) (S:nP) (w:wD)
 (hs:rowSits S w l a) (hsl:s.length<=9223372036854775807) (hll:l.length<=9223372036854775807) (hrw:CO l) :
 Calls prog 171 #[.agg #[.int .u8 k,.int .i64 n,str s,.slice a l.length c]] w λe w'=>e = .returned (.bool (Nd.mk k n s l).isStmt)/\Ext w w':=by
 have HVA:=fZ λt (ht:t∈l)=>Yj S t (BN hrw t ht)
 have HSL:=fZ hsl;clear hsl hrw
 have hr:=Uc hk n s l
 have HR:=fZ hr;clear hr
 cases hnm:named n s
 all_goals have HNM:=fZ hnm;clear hnm
 all_goals by_cases h8:l.length<=8
 all_goals have d8:decide ((l.length:Int)<=8)=decide (l.length<=8):=by simp only [decide_eq_decide];omega
 all_goals first|rw [decide_eq_true h8] at d8|rw [decide_eq_false h8] at d8
 all_goals have H8:=fZ h8;clear h8
 all_goals rcases hk with rfl|rfl
 all_goals go_enter func171,ntmps171
 all_goals go_wp2_with (first|(go_at_call 201;refine (Hy _ _ _ _ _ _ _ HSL.out).mono ?_;rintro e w1 ⟨rfl,hx1⟩;have hc1:=hx1.cells;rw [HNM.out])|(go_at_call 170;refine (SR 202 Nd.isVar VK l a c S _ hll (hs.ext (by repeat (first|exact Ne _|assumption|refine mz ?_ _|refine mH ?_|refine mA ?_ ‹_›))) HVA.out).mono ?_;rintro e w2 ⟨rfl,hx2⟩))
 all_goals go_ret
 all_goals rw [HR.out,HNM.out]
 all_goals exact ⟨AZ (by simp [H8.out]),(by repeat (first|exact Ne _|assumption|refine mz ?_ _|refine mH ?_|refine mA ?_ ‹_›))⟩
def PE (k n:Int) (s:lB) (l:List Nd) (h:k<40\/56<k):(Nd.mk k n s l).isStmt=false:=by
 rw [Nd.isStmt.eq_def];simp only [];rw [AC Ab,AC Ab,AC Ab,AC Ab,AC Ab,AC Ab,AC Ab,AC Ab]
def PF (k n:Int) (s:lB) (l:List Nd) (a:oA) (c:Nat) (w:wD) (h:k<40\/56<k) :
 Calls prog 171 #[.agg #[.int .u8 k,.int .i64 n,str s,.slice a l.length c]] w λe w'=>e = .returned (.bool (Nd.mk k n s l).isStmt)/\Ext w w':=by
 have hr:=PE k n s l h
 have HR:=fZ hr;clear hr
 have d40:(k==40)=false:=by rw [beq_eq_false_iff_ne];omega
 have d41:(k==41)=false:=by rw [beq_eq_false_iff_ne];omega
 have d42:(k==42)=false:=by rw [beq_eq_false_iff_ne];omega
 have d43:(k==43)=false:=by rw [beq_eq_false_iff_ne];omega
 have d44:(k==44)=false:=by rw [beq_eq_false_iff_ne];omega
 have d45:(k==45)=false:=by rw [beq_eq_false_iff_ne];omega
 have d46:(k==46)=false:=by rw [beq_eq_false_iff_ne];omega
 have d47:(k==47)=false:=by rw [beq_eq_false_iff_ne];omega
 have d48:(k==48)=false:=by rw [beq_eq_false_iff_ne];omega
 have d49:(k==49)=false:=by rw [beq_eq_false_iff_ne];omega
 have d50:(k==50)=false:=by rw [beq_eq_false_iff_ne];omega
 have d51:(k==51)=false:=by rw [beq_eq_false_iff_ne];omega
 have d52:(k==52)=false:=by rw [beq_eq_false_iff_ne];omega
 have d53:(k==53)=false:=by rw [beq_eq_false_iff_ne];omega
 have d54:(k==54)=false:=by rw [beq_eq_false_iff_ne];omega
 have d55:(k==55)=false:=by rw [beq_eq_false_iff_ne];omega
 have d56:(k==56)=false:=by rw [beq_eq_false_iff_ne];omega
 clear h
 go_enter func171,ntmps171
 go_wp2_with fail
 go_ret
 rw [HR.out]
 exact ⟨rfl,(by refine mz ?_ _;exact Ne _)⟩
def Ry (k n:Int) (s:lB) (l:List Nd) (a:oA) (c:Nat) (S:nP) (w:wD)
 (O:rowSits S w l a) (G:s.length<=9223372036854775807) (M:l.length<=9223372036854775807) (N:CO l) (U:∀t∈l,DX S 140 mL t) :
 Calls prog 171 #[.agg #[.int .u8 k,.int .i64 n,str s,.slice a l.length c]] w λe w'=>e = .returned (.bool (Nd.mk k n s l).isStmt)/\Ext w w':=by
 by_cases h:k<40\/56<k
 . exact PF k n s l a c w h
 by_cases V:k=40\/k=41\/k=42\/k=56
 . exact TZ V n s l a c S w O G M N
 by_cases X:k=43
 . exact T1 X n s l a c S w O G M N
 by_cases Y:k=44\/k=45
 . exact T3 Y n s l a c S w O G M N
 by_cases Z:k=46\/k=47\/k=48\/k=49
 . exact T5 Z n s l a c S w O G M N
 by_cases aa:k=52\/k=53
 . exact T7 aa n s l a c S w O G M N U
 by_cases ab:k=54
 . exact T9 ab n s l a c S w O G M N U
 by_cases ac:k=55
 . exact Ub ac n s l a c S w O G M N U
 by_cases ad:k=50\/k=51
 . exact Ud ad n s l a c S w O G M N
 omega
def PH (k n:Int) (s:lB) (l:List Nd) (a:oA) (c:Nat) (S:nP) (w:wD)
 (hs:rowSits S w l a) (hll:l.length<=9223372036854775807) (ht:∀t∈l,DX S 171 mV t) :
 Calls prog 140 #[.agg #[.int .u8 k,.int .i64 n,str s,.slice a l.length c]] w λe w'=>e = .returned (.bool (Nd.mk k n s l).isBlock)/\Ext w w':=by
 have hall:∀r:List Nd,DP r=r.all mV:=by
  intro r
  induction r with
  | nil=>rfl
  | cons x r ih=>simp [DP,ih]
 have hr:(Nd.mk k n s l).isBlock=(k==57&&plain n s&&l.all mV):=by rw [mL,hall]
 have HR:=fZ hr;clear hr hall
 have HT:=fZ ht;clear ht
 by_cases h57:k=57
 . subst h57
   cases hnm:plain n s
   all_goals have HNM:=fZ hnm;clear hnm
   all_goals go_enter func140,ntmps140
   all_goals go_wp2_with (first|(go_at_call 169;refine (GB _ _ _ _ _ _ _).mono ?_;rintro e w1 ⟨rfl,hx1⟩;have hc1:=hx1.cells;rw [HNM.out])|(go_at_call 170;refine (SR 171 mV TX l a c S _ hll (hs.ext (by refine mA ?_ ‹_›;refine mz ?_ _;exact Ne _)) HT.out).mono ?_;rintro e w2 ⟨rfl,hx2⟩))
   all_goals go_ret
   all_goals rw [HR.out,HNM.out]
   all_goals exact ⟨AZ (by simp),(by repeat (first|exact Ne _|assumption|refine mz ?_ _|refine mH ?_|refine mA ?_ ‹_›))⟩
 . have d57:(k==57)=false:=by rw [beq_eq_false_iff_ne];omega
   clear h57
   go_enter func140,ntmps140
   go_wp2_with fail
   go_ret
   rw [HR.out]
   exact ⟨AZ (by simp [d57]),(by refine mz ?_ _;exact Ne _)⟩
def It (S:nP) (N:Nat):(∀t:Nd,t.size<N->t.wf->DX S 171 mV t)/\(∀t:Nd,t.size<N->t.wf->DX S 140 mL t):=by
 induction N with
 | zero=>exact ⟨λt h=>absurd h (Nat.not_lt_zero _),λt h=>absurd h (Nat.not_lt_zero _)⟩
 | succ N U=>
  refine ⟨?_,?_⟩
  . rintro ⟨k,n,s,l⟩ V G a c w O;simp only [Nd.wf,mF,m6] at *;exact Ry k n s l a c S w O G.2.2.2.2.1 G.2.2.2.2.2.1 G.2.2.2.2.2.2 (λt M=>U.2 t (by have:=D4 M;omega) (BN G.2.2.2.2.2.2 t M))
  . rintro ⟨k,n,s,l⟩ V G a c w O;simp only [Nd.wf,mF,m6] at *;exact PH k n s l a c S w O G.2.2.2.2.2.1 (λt M=>U.1 t (by have:=D4 M;omega) (BN G.2.2.2.2.2.2 t M))
def VL (S:nP) (t:Nd) (h:t.wf):DX S 171 mV t:=(It S (t.size+1)).1 t Ab h
def Ue (S:nP) (t:Nd) (h:t.wf):DX S 140 mL t:=(It S (t.size+1)).2 t Ab h
attribute [local irreducible] Go.Calls
mutual
def B7 {S:nP} {w:wD}:∀(l:List Nd) (a:oA),rowSits S w l a->rowSits (· < w.heap.size) w l a
 | [],_,_=>by simp [rowSits]
 | t::r,a,h=>by
  simp only [rowSits] at h ⊢;obtain ⟨b,o,a',c,rfl,hb,h0,h1,h2,h3,hs,hr⟩:=h;exact ⟨b,o,a',c,rfl,Ci h0,h0,h1,h2,h3,B6 t a' hs,B7 r _ hr⟩
def B6 {S:nP} {w:wD}:∀(t:Nd) (a:oA),t.sits S w a->t.sits (· < w.heap.size) w a
 | .mk _ _ _ l,a,h=>by
  simp only [m6] at h ⊢;exact B7 l a h
end
def CA:∀ {l:List Nd} {x:Nd},x∈l->x.size<=AY l
 | [],x,h=>by cases h
 | t::r,x,h=>by
  simp only [AY];rcases gT.1 h with rfl|h
  . omega
  . have:=CA h;omega
def Co (l:List Nd):l.length<=AY l:=by
 induction l with
 | nil=>simp [AY]
 | cons x r h=>
  have:1<=x.size:=by cases x;simp only [mF];omega
  simp only [AY,gH];omega
abbrev AX (xs:List Int):lV:=xs.map (.int .i64 ·)
def IntsAt (w:wD) (xs:List Int) (a:oA):Prop:=Rows (λ_=>True) w (AX xs) a
def IntsAt.ext {w w':wD} {xs:List Int} {a:oA} (h:IntsAt w xs a) (x:Ext w w'):IntsAt w' xs a:=Rows.ext h x
instance:LfE w w' (IntsAt w xs a) (IntsAt w' xs a):=⟨λx h=>Bk.IntsAt.ext h x⟩
def IntsAt.get (h:IntsAt w xs a) (G:xs≠[]):∃b o,a=some ⟨b,o,none⟩/\Row w ⟨b,o,none⟩ (AX xs):=by
 rcases h with h|⟨b,o,M,-,N⟩
 . exact absurd (List.map_eq_nil_iff.1 h) G
 . exact ⟨b,o,M,N⟩
def IntsAt.at {w:wD} {xs:List Int} {b o:Nat} (h:Row w ⟨b,o,none⟩ (AX xs)) {i:Nat} (M:i<xs.length):Row w ⟨b,o+i*1,none⟩ [.int .i64 (xs.getD i 0)]:=by
 intro j v G
 match j,G with
 | 0,G=>
  simp only [gX,gE] at G;subst G;have:=h.at (i:=i) (v:=.int .i64 (xs.getD i 0)) (by simp [AX,iD,fY M,gY]);simpa [jY] using this
def LookR (xs:List Int) (q:Bool) (w:wD):Ending->wD->Prop:=λe w'=> ∃a c,e = .returned (.tuple #[.slice a xs.length c,.bool q])/\IntsAt w' xs a/\xs.length<=1000000/\Ext w w'
def LookR.ret {q:Bool} (h:LookR xs q w e w'):∃v,e = .returned v:=by
 obtain ⟨_,_,h,-⟩:=h;exact ⟨_,h⟩
structure Keep (I:wD->Prop) (w:wD):Prop where
 h:I w
 s:∀w1 w2,I w1->Ext w1 w2->I w2
def Keep.ext {I:wD->Prop} (h:Keep I w) (x:Ext w w'):Keep I w':=⟨h.s _ _ h.h x,h.s⟩
instance {I:wD->Prop}:LfE w w' (Keep I w) (Keep I w'):=⟨λx h=>Bk.Keep.ext h x⟩
def Kz (at_:lB->Option (List Int)) (f:FuncId) (fi:lV) (I:wD->Prop):Prop:= ∀(s:lB) (w:wD),Keep I w->Calls prog f (fi++[str s]++[]).toArray w (LookR ((at_ s).getD []) (at_ s).isSome w)
def cH (r:Int×Int) (w:wD):Ending->wD->Prop:=λe w'=>e = .returned (.tuple #[.int .i64 r.1,.int .i64 r.2])/\Ext w w'
inductive ExprSh:Nd->Prop where
 | num {n:Int}:ExprSh (.mk 1 n [] [])
 | ref {k:Int} {s:lB}:(k=2\/k=4\/k=5)->Cl s=true->ExprSh (.mk k 0 s [])
 | item {s:lB} {x:Nd}:Cl s=true->x.isExpr=true->ExprSh (.mk 3 0 s [x])
 | un {k:Int} {x:Nd}:(k=6\/k=7)->x.isExpr=true->ExprSh (.mk k 0 [] [x])
 | bin {k:Int} {x y:Nd}:8<=k/\k<=23->x.isExpr=true->y.isExpr=true->ExprSh (.mk k 0 [] [x,y])
def LC {t:Nd} (h:t.isExpr=true):ExprSh t:=by
 obtain ⟨k,n,s,l⟩:=t;unfold mK at h;by_cases M:k=1
 . rw [AT M] at h;simp only [gD,jS,decide_eq_true_eq] at h;obtain ⟨⟨Y,rfl⟩,rfl⟩:=h;subst M;exact .num
 rw [AC M] at h;by_cases N:k=2\/k=4\/k=5
 . rw [AT N] at h;simp only [gD,named,beq_iff_eq,jS] at h;obtain ⟨⟨rfl,O⟩,rfl⟩:=h;exact .ref N O
 rw [AC N] at h;by_cases U:k=3
 . rw [AT U] at h;simp only [gD,named,beq_iff_eq] at h;obtain ⟨⟨rfl,O⟩,G⟩:=h;subst U;split at G
   . exact .item O G
   . cases G
 rw [AC U] at h;by_cases V:k=6\/k=7
 . rw [AT V] at h;simp only [gD,plain,beq_iff_eq,jS] at h;obtain ⟨⟨rfl,rfl⟩,G⟩:=h;split at G
   . exact .un V G
   . cases G
 rw [AC V] at h;by_cases X:8<=k/\k<=23
 . rw [AT X] at h;simp only [gD,plain,beq_iff_eq,jS] at h;obtain ⟨⟨rfl,rfl⟩,G⟩:=h;split at G
   . simp only [gD] at G;exact .bin X G.1 G.2
   . cases G
 rw [AC X] at h;cases h
def Om (k:Int) (o:Option (List Int)):Int×Int:=match o with
 | none=>(0,6)
 | some c=>if k=2 then if c.length=1 then (c.getD 0 0,0) else (0,7) else if k=4 then if c.length=0 then (0,13) else (c.getD (c.length-1) 0,0) else (c.length,0)
def Uf {at_:lB->Option (List Int)} (h:k=2\/k=4\/k=5):A8 at_ (.mk k 0 s [])=Om k (at_ s):=by
 unfold A8 Om;rcases h with rfl|rfl|rfl
 . simp only [show ¬((2:Int)=1) by decide,if_false,if_true];all_goals (cases at_ s<;>rfl)
 . simp only [show ¬((4:Int)=1) by decide,show ¬((4:Int)=2) by decide,show ¬((4:Int)=3) by decide,if_false,if_true];all_goals (cases at_ s<;>rfl)
 . simp only [show ¬((5:Int)=1) by decide,show ¬((5:Int)=2) by decide,show ¬((5:Int)=3) by decide,show ¬((5:Int)=4) by decide,if_false,if_true];all_goals (cases at_ s<;>rfl)
def KA (o:Option (List Int)) (r:Int×Int):Int×Int:=match o with
 | none=>(0,6)
 | some c=>if r.2≠0 then (0,r.2) else if r.1<0\/(c.length:Int)<=r.1 then (0,12) else (c.getD r.1.toNat 0,0)
def Rz {at_:lB->Option (List Int)}:A8 at_ (.mk 3 0 s [x])=KA (at_ s) (A8 at_ x):=by
 conv=>lhs;unfold A8
 unfold KA;simp only [show ¬((3:Int)=1) by decide,show ¬((3:Int)=2) by decide,if_false,if_true];all_goals (cases at_ s<;>rfl)
def VM {at_:lB->Option (List Int)} (hk:k=6\/k=7):A8 at_ (.mk k 0 [] [x])=if (A8 at_ x).2≠0 then (0,(A8 at_ x).2) else Em k (A8 at_ x).1:=by
 conv=>lhs;unfold A8
 rw [AC Ab,AC Ab,AC Ab,AC Ab,AC Ab]
def Ug {at_:lB->Option (List Int)} {y:Nd} (hk:8<=k/\k<=23):A8 at_ (.mk k 0 [] [x,y])=if (A8 at_ x).2≠0 then (0,(A8 at_ x).2) else if (A8 at_ y).2≠0 then (0,(A8 at_ y).2) else El k (A8 at_ x).1 (A8 at_ y).1:=by
 conv=>lhs;unfold A8
 rw [AC Ab,AC Ab,AC Ab,AC Ab,AC Ab]
def PI {at_:List UInt8->Option (List Int)} {f:FuncId} {fi:List Value} {I:World->Prop} (hf:BU prog f=true) (HL:Kz at_ f fi I) {n:Int} (hk:k=2\/k=4\/k=5) (s:List UInt8) (a:Option Addr) (m c:Nat) (w:World) (hI:Keep I w) :
 Calls prog 241 #[.agg #[.int .u8 k,.int .i64 n,str s,.slice a m c],.func (.func f) fi.toArray #[]] w (cH (Om k (at_ s)) w):=by
 have X:=Ne w;have HA:=fZ (HL s)
 generalize at_ s=o at *
 cases o with
 | none=>
  simp only [Option.getD_none,Option.isSome_none] at HA;refine Ad func241 ntmps241 rfl rfl ?_
  refine cS (eB [_,_,_,_] ?_);intro b1 w2 h4 x5 _ _;revert hI X;refine eE x5 ?_;intro hI X;refine C1 Pa (C1 Pa (cN (C1 Mv (C1 Pf (C1 (Pl h4) (Az (Bb (ca:=[]) hf rfl rfl (HA.out _ Af) (λ_ _ h=>h.ret)) rfl ?_ aFh))))));rintro _ ae ⟨a8,c9,⟨⟩,af,ag,aa⟩;replace X:=X.ext aa;refine C1 Mv (C1 Px (C1 Px (C1 Pa (C1 Pa (cT (Aj (cS (C1 Mv (C1 Pt (cT (Bq rfl (cS (C1 Pa (C1 Pa (cT (AU (At (Bc rfl rfl rfl ?_))))))))))))))))))
  exact ⟨rfl,X⟩
 | some xs=>
  simp only [lY,Option.isSome_some] at HA;refine Ad func241 ntmps241 rfl rfl ?_
  focus
   refine cS (eB [_,_,_,_] ?_);intro ah ai G ab _ _;revert hI X;refine eE ab ?_;intro hI X;refine C1 Pa (C1 Pa (cN (C1 Mv (C1 Pf (C1 (Pl G) (Az (Bb (ca:=[]) hf rfl rfl (HA.out _ Af) (λ_ _ h=>h.ret)) rfl ?_ aFh))))));rintro _ ac ⟨aj,ak,⟨⟩,M,ad,O⟩;revert G X;refine eE O ?_;intro G X;refine C1 Mv (C1 Px (C1 Px (C1 Pa (C1 Pa (cT (Aj (cS (C1 Mv (C1 Pt (cT (AO rfl (Am (Ai (Aj (cS (C1 Pg (C1 (Pl G) (cT (As (cS (C1 V1 (C1 Pa (cT (AA rfl (λU=>?_) (λU=>?_)))))))))))))))))))))))));refine Aj (cS (C1 Mv (C1 Pz (C1 V2 (cT (BP rfl (λV=>?_) (λV=>?_)))))));refine cS (C1 Pa (C1 Pa (cT (AU (At (AJ (At (Bc rfl rfl rfl ?_))))))));rotate_left;refine Am (Ai ?_);rotate_left;refine cS (C1 V1 (C1 Pa (cT (Dd (cS (C1 V1 (C1 Pa (cT (AA rfl (λY=>?_) (λY=>?_))))))))));refine Aj (cS (C1 Mv (C1 Pz (C1 V1 (cT (AA rfl (λZ=>?_) (λZ=>?_)))))));refine cS (C1 Pa (C1 Pa (cT (AU (At (AJ (At (Bc rfl rfl rfl ?_))))))));rotate_left;refine Am (Ai ?_);rotate_left;refine Am (Ah (Ai (cS (C1 Mv (C1 Pz (C1 Pa (C1 Pa (cT (AU (Bc rfl rfl rfl ?_))))))))));rotate_left
  . exact ⟨by rw [Om,AT Af,AC Ab],X⟩
  . have N:xs≠[]:=by rintro rfl;simp at *
    obtain ⟨gb,go,rfl,hr⟩:=M.get N;have r1:=IntsAt.at hr (i:=0) Ab
    generalize hv:xs.getD 0 0=v at *
    refine cS (C1 Mv (C1 Pi (C1 (Pw r1) (C1 Pa (C1 Pa (cT (AU (AJ (At (Bc rfl rfl rfl ?_))))))))))
    exact ⟨by rw [Om,AT Af,AT Ab,hv],X⟩
  . exact ⟨by rw [Om,AC Ab,AT Af,AT Ab],X⟩
  . have N:xs≠[]:=by rintro rfl;simp at *
    obtain ⟨gb,go,rfl,hr⟩:=M.get N;have r1:=IntsAt.at hr (i:=((xs.length:Int)-1).toNat) Ab
    have hj:((xs.length:Int)-1).toNat=xs.length-1:=by omega
    generalize hv:xs.getD ((xs.length:Int)-1).toNat 0=v at *
    rw [hj] at hv
    refine cS (C1 Mv (C1 Mv (C1 Pz (C1 (AL rfl rfl (gG _ Ab)) (C1 Pi (C1 (MR r1) (C1 Pa (C1 Pa (cT (AU (AJ (At (Bc rfl rfl rfl ?_)))))))))))))
    exact ⟨by rw [Om,AC Ab,AT Af,AC Ab,hv],X⟩
  . focus
     rotate_left
    exact ⟨by rw [Om,AC Ab,AC Ab],X⟩
def VN (h:rowSits S w [x] a):∃b o xa xc,a=some ⟨b,o,none⟩/\S b/\Row w ⟨b,o+0*4,none⟩ (x.cells xa xc)/\x.sits S w xa:=by
 obtain ⟨b,o,e,G,M⟩:=BJ h AQ;obtain ⟨xa,xc,r,s⟩:=M 0 x rfl;exact ⟨b,o,xa,xc,e,G,r,s⟩
def aE {y:Nd} (h:rowSits S w [x,y] a):∃b o xa xc ya yc,a=some ⟨b,o,none⟩/\S b/\Row w ⟨b,o+0*4,none⟩ (x.cells xa xc)/\x.sits S w xa/\Row w ⟨b,o+1*4,none⟩ (y.cells ya yc)/\y.sits S w ya:=by
 obtain ⟨b,o,e,M,G⟩:=BJ h AQ;obtain ⟨xa,xc,r,s⟩:=G 0 x rfl;obtain ⟨ya,yc,N,O⟩:=G 1 y rfl;exact ⟨b,o,xa,xc,ya,yc,e,M,r,s,N,O⟩
def aF (at_:lB->Option (List Int)) (f:FuncId) (fi:lV) (I:wD->Prop) (t:Nd):Prop:= ∀(S:nP) (a:oA) (c:Nat) (w:wD),t.sits S w a->Keep I w->Calls prog 234 #[t.val a c,.func (.func f) fi.toArray #[]] w (cH (A8 at_ t) w)
def PJ {at_:List UInt8->Option (List Int)} {f:FuncId} {fi:List Value} {I:World->Prop} (hf:BU prog f=true) (HL:Kz at_ f fi I) {n:Int} (s:List UInt8) (HX:aF at_ f fi I x) (S:Nat->Prop) (a:Option Addr) (c:Nat) (w:World) (hs:rowSits S w [x] a) (N:Keep I w) :
 Calls prog 241 #[.agg #[.int .u8 3,.int .i64 n,str s,.slice a 1 c],.func (.func f) fi.toArray #[]] w (cH (KA (at_ s) (A8 at_ x)) w):=by
 have X:=Ne w;have HA:=fZ (HL s)
 unfold aF at HX
 replace HX:=fZ HX;obtain ⟨kb,ko,xa,xc,rfl,-,U,O⟩:=VN hs;replace O:=B6 _ _ O
 generalize A8 at_ x=r at *
 generalize at_ s=o at *
 cases o with
 | none=>
  simp only [Option.getD_none,Option.isSome_none] at HA;refine Ad func241 ntmps241 rfl rfl ?_
  refine cS (eB [_,_,_,_] ?_);intro b1 w2 h4 x5 _ _;revert N X;refine eE x5 ?_;intro N X;refine C1 Pa (C1 Pa (cN (C1 Mv (C1 Pf (C1 (Pl h4) (Az (Bb (ca:=[]) hf rfl rfl (HA.out _ Af) (λ_ _ h=>h.ret)) rfl ?_ aFh))))));rintro _ aj ⟨a8,c9,⟨⟩,ak,al,ac⟩;replace X:=X.ext ac;refine C1 Mv (C1 Px (C1 Px (C1 Pa (C1 Pa (cT (Aj (cS (C1 Mv (C1 Pt (cT (Bq rfl (cS (C1 Pa (C1 Pa (cT (AU (At (Bc rfl rfl rfl ?_))))))))))))))))))
  exact ⟨rfl,X⟩
 | some xs=>
  simp only [lY,Option.isSome_some] at HA;refine Ad func241 ntmps241 rfl rfl ?_
  focus
   refine cS (eB [_,_,_,_] ?_);intro am an G ad _ _;revert N X U O;refine eE ad ?_;intro N X U O;refine C1 Pa (C1 Pa (cN (C1 Mv (C1 Pf (C1 (Pl G) (Az (Bb (ca:=[]) hf rfl rfl (HA.out _ Af) (λ_ _ h=>h.ret)) rfl ?_ aFh))))));rintro _ ag ⟨ao,ap,⟨⟩,M,ah,V⟩;revert G N X U O;refine eE V ?_;intro G N X U O;refine C1 Mv (C1 Px (C1 Px (C1 Pa (C1 Pa (cT (Aj (cS (C1 Mv (C1 Pt (cT (AO rfl (Am (Ai (Aj (cS (C1 Pg (C1 (Pl G) (cT (As (cS (C1 V1 (C1 Pa (cT (MS (cS (C1 V1 (C1 Pa (cT (Vj (cS (C1 Pf (C1 (Pl G) (C1 Pi (BQ [_,_,_,_] Ac rfl rfl rfl U rfl rfl rfl (C1 Mv (cC rfl (HX.out _ _ _ _ Af Af) ?_))))))))))))))))))))))))))))))))))));rintro _ ai ⟨⟨⟩,Y⟩;revert M X;refine eE Y ?_;intro M X;refine C1 Mv (C1 Px (C1 Px (C1 Pa (C1 Pa (cT (Aj (cS (C1 Mv (C1 V2 (cT (BP rfl (λZ=>?_) (λZ=>?_))))))))))));refine cS (C1 Mv (C1 Pa (C1 Pa (cT (AU (At (AJ (At (Bc rfl rfl rfl ?_)))))))));rotate_left;refine Am (Ai (Aj (cS (C1 Mv (C1 V3 (C1 Mv (B4 rfl rfl rfl (λaa=>?_) (λaa=>?_))))))));refine EJ (EJ (EJ (EJ (C1 Oc (cT (Bq rfl (cS (C1 Pa (C1 Pa (cT (AU (At (AJ (At (Bc rfl rfl rfl ?_)))))))))))))))
   rotate_left;refine E2 (C1 Mv (E2 (C1 Mv (E2 (C1 Pz (E2 (C1 V6 (C1 MU (cT (AA rfl (λab=>?_) (λab=>?_)))))))))));refine cS (C1 Pa (C1 Pa (cT (AU (At (AJ (At (Bc rfl rfl rfl ?_))))))));rotate_left;refine Am (Ai ?_);rotate_left
  . exact ⟨by rw [KA,AT Ab],X⟩
  . exact ⟨by rw [KA,AC Ab,AT (gA Ab)],X⟩
  . exact ⟨by rw [KA,AC Ab,AT (gB Ab)],X⟩
  . have ae:xs≠[]:=by rintro rfl;simp at *;omega
    obtain ⟨gb,go,rfl,af⟩:=M.get ae;have r1:=IntsAt.at af (i:=r.1.toNat) Ab
    generalize hv:xs.getD r.1.toNat 0=v at *
    refine cS (C1 Mv (C1 Mv (C1 Pi (C1 (MR r1) (C1 Pa (C1 Pa (cT (AU (AJ (At (Bc rfl rfl rfl ?_)))))))))))
    exact ⟨by rw [KA,AC Ab,AC Ab,hv],X⟩
def PK {at_:List UInt8->Option (List Int)} {f:FuncId} {fi:List Value} {I:World->Prop} (hf:BU prog f=true) (HL:Kz at_ f fi I) (N:Nat):∀(t:Nd),t.size<N->t.isExpr=true->aF at_ f fi I t:=by
 induction N with
 | zero=>intro t h;omega
 | succ N ih=>
  intro t hN M;have aq:=LC M;clear M;intro S a c w O Y;have X:=Ne w
  cases aq with
  | num=>
   rename_i n
   have e:A8 at_ (.mk 1 n [] [])=(n,0):=by unfold A8;rw [AT rfl]
   rw [e]
   change Calls prog 234 #[.agg #[.int .u8 1,.int .i64 n,str [],.slice a 0 c],.func (.func f) fi.toArray #[]] w _
   refine Ad func234 ntmps234 rfl rfl ?_
   refine cS (eB [_,_,_,_] ?_);intro b1 w2 h4 x5 _ _;revert X O;refine eE x5 ?_;intro X O;clear x5;refine C1 Pa (C1 Pa (cT (Aj (cS (C1 Pg (C1 (Pl h4) (cT (As (cS (C1 V1 (C1 Pa (cT (Vj (cS (C1 Pf (C1 (Pl h4) (C1 Pa (C1 Pa (cT (AU (AJ (At (Bc rfl rfl rfl ?_)))))))))))))))))))))))
   exact ⟨rfl,X⟩
  | ref hk hn=>
   rename_i k s
   rw [Uf hk];have HV:=fZ (PI hf HL (n:=0) hk s a 0 c);clear HL ih O
   generalize Om k (at_ s)=r at *
   change Calls prog 234 #[.agg #[.int .u8 k,.int .i64 0,str s,.slice a 0 c],.func (.func f) fi.toArray #[]] w _
   refine Ad func234 ntmps234 rfl rfl ?_
   focus
    refine cS (eB [_,_,_,_] ?_);intro a0 a1 Z ae _ _;revert Y X;refine eE ae ?_;intro Y X;clear ae;refine C1 Pa (C1 Pa (cT (Aj (cS (C1 Pg (C1 (Pl Z) (cT (As (cS (C1 V1 (C1 Pa (cT (Dd (Aj (cS (C1 V1 (C1 Pa (cT (AA rfl (λar=>?_) (λar=>?_))))))))))))))))))));refine Am (Ai (XU (cS (AH [_,_,_,_] Ac rfl rfl rfl Z rfl rfl rfl (C1 Mv (cC rfl (HV.out _ Af) ?_))))));rintro _ au ⟨⟨⟩,af⟩;replace X:=X.ext af;clear af;refine C1 Px (C1 Px (C1 Pa (C1 Pa (cT (AU (AJ (At (Bc rfl rfl rfl ?_))))))));rotate_left;refine cS (C1 V1 (C1 Pa (cT (Dd (cS (C1 V1 (C1 Pa (cT (AA rfl (λag=>?_) (λag=>?_))))))))));refine Am (Ai (XU (cS (AH [_,_,_,_] Ac rfl rfl rfl Z rfl rfl rfl (C1 Mv (cC rfl (HV.out _ Af) ?_))))));rintro _ av ⟨⟨⟩,aa⟩;replace X:=X.ext aa;clear aa;refine C1 Px (C1 Px (C1 Pa (C1 Pa (cT (AU (AJ (At (Bc rfl rfl rfl ?_))))))));rotate_left;refine Ak (C1 V1 (C1 Pa (cT (Ll (cS (AH [_,_,_,_] Ac rfl rfl rfl Z rfl rfl rfl (C1 Mv (cC rfl (HV.out _ Af) ?_))))))));rintro _ aw ⟨⟨⟩,ab⟩;replace X:=X.ext ab;clear ab;refine C1 Px (C1 Px (C1 Pa (C1 Pa (cT (AU (AJ (At (Bc rfl rfl rfl ?_))))))));rotate_left
   all_goals exact ⟨rfl,X⟩
  | item hn M=>
   rename_i s x
   rw [Rz];simp only [mF,AY] at hN;have HV:=fZ (PJ hf HL (n:=0) s (ih x Ab M) S a c);clear HL ih
   generalize KA (at_ s) (A8 at_ x)=r at *
   have O:rowSits S w [x] a:=O
   change Calls prog 234 #[.agg #[.int .u8 3,.int .i64 0,str s,.slice a 1 c],.func (.func f) fi.toArray #[]] w _
   refine Ad func234 ntmps234 rfl rfl ?_
   refine cS (eB [_,_,_,_] ?_);intro a2 a3 ah ad _ _;revert Y X;refine eE ad ?_;intro Y X;clear O;replace O:=mS O ad;clear ad;refine C1 Pa (C1 Pa (cT (Aj (cS (C1 Pg (C1 (Pl ah) (cT (As (cS (C1 V1 (C1 Pa (cT (MS (Aj (cS (C1 V1 (C1 Pa (cT (MS (cS (C1 V1 (C1 Pa (cT (Vj (Am (Ai (Vj (cS (AH [_,_,_,_] Ac rfl rfl rfl ah rfl rfl rfl (C1 Mv (cC rfl (HV.out _ Af Af) ?_)))))))))))))))))))))))))))))));rintro _ a4 ⟨⟨⟩,ai⟩;revert X O;refine eE ai ?_;intro X O;clear ai;refine C1 Px (C1 Px (C1 Pa (C1 Pa (cT (AU (AJ (At (Bc rfl rfl rfl ?_))))))))
   exact ⟨rfl,X⟩
  | un hk M=>
   rename_i k x
   rw [VM hk];simp only [mF,AY] at hN;have HX:=ih x Ab M
   unfold aF at HX
   replace HX:=fZ HX;obtain ⟨kb,ko,xa,xc,rfl,-,hr,M⟩:=VN O;replace M:=B6 _ _ M;clear HL ih O
   generalize A8 at_ x=r at *
   change Calls prog 234 #[.agg #[.int .u8 k,.int .i64 0,str [],.slice (some ⟨kb,ko,none⟩) 1 c],.func (.func f) fi.toArray #[]] w _
   refine Ad func234 ntmps234 rfl rfl ?_
   focus
    refine cS (eB [_,_,_,_] ?_);intro a5 a6 U aj _ _;revert Y X hr M;refine eE aj ?_;intro Y X hr M;clear aj;refine C1 Pa (C1 Pa (cT (Aj (cS (C1 Pg (C1 (Pl U) (cT (As (cS (C1 V1 (C1 Pa (cT (Dd (Aj (cS (C1 V1 (C1 Pa (cT (Dd (cS (C1 V1 (C1 Pa (cT (Dd (cS (C1 V1 (C1 Pa (cT (Dd (Ak (C1 V1 (C1 Pa (cT (Dd (Am (Ah (Ai (cS (C1 Pf (C1 (Pl U) (C1 Pi (BQ [_,_,_,_] Ac rfl rfl rfl hr rfl rfl rfl (C1 Mv (cC rfl (HX.out _ _ _ _ Af Af) ?_))))))))))))))))))))))))))))))))))))))))))));rintro _ a7 ⟨⟨⟩,ak⟩;revert U X;refine eE ak ?_;intro U X;clear ak;refine C1 Mv (C1 Px (C1 Px (C1 Pa (C1 Pa (cT (Aj (cS (C1 Mv (C1 V2 (cT (BP rfl (λal=>?_) (λal=>?_))))))))))));refine cS (C1 Mv (C1 Pa (C1 Pa (cT (AU (At (Bc rfl rfl rfl ?_)))))));rotate_left;refine Am (Ai (Aj (cS (C1 Pf (C1 (Pl U) (C1 Pz (C1 V1 (cT (Vj (cS (C1 Pg (C1 (Pl U) (C1 Mv (cC rfl (Og _ _ _) ?_))))))))))))));rintro _ ax ⟨⟨⟩,rfl⟩;refine C1 Px (C1 Px (C1 Pa (C1 Pa (cT (AU (At (Bc rfl rfl rfl ?_)))))));rotate_left
   . exact ⟨by rw [AT Ab],X⟩
   . exact ⟨by rw [AC Ab],X⟩
  | bin hk M hy=>
   rename_i k x y
   rw [Ug hk];simp only [mF,AY] at hN;have HX:=ih x Ab M;have HY:=ih y Ab hy
   unfold aF at HX HY
   replace HX:=fZ HX;replace HY:=fZ HY;obtain ⟨kb,ko,xa,xc,ya,yc,rfl,-,hr,M,V,hy⟩:=aE O;replace M:=B6 _ _ M;replace hy:=B6 _ _ hy;clear HL ih O
   generalize A8 at_ x=r at *
   generalize A8 at_ y=r' at *
   change Calls prog 234 #[.agg #[.int .u8 k,.int .i64 0,str [],.slice (some ⟨kb,ko,none⟩) 2 c],.func (.func f) fi.toArray #[]] w _
   refine Ad func234 ntmps234 rfl rfl ?_
   focus
    refine cS (eB [_,_,_,_] ?_);intro a8 a9 G am _ _;revert Y X hr V M hy;refine eE am ?_;intro Y X hr V M hy;clear am;refine C1 Pa (C1 Pa (cT (Aj (cS (C1 Pg (C1 (Pl G) (cT (As (cS (C1 V1 (C1 Pa (cT (Dd (Aj (cS (C1 V1 (C1 Pa (cT (Dd (cS (C1 V1 (C1 Pa (cT (Dd (cS (C1 V1 (C1 Pa (cT (Dd (Ak (C1 V1 (C1 Pa (cT (Dd (Am (Ah (Ai (cS (C1 Pf (C1 (Pl G) (C1 Pi (BQ [_,_,_,_] Ac rfl rfl rfl hr rfl rfl rfl (C1 Mv (cC rfl (HX.out _ _ _ _ Af Af) ?_))))))))))))))))))))))))))))))))))))))))))));rintro _ ba ⟨⟨⟩,an⟩;revert G Y X V hy;refine eE an ?_;intro G Y X V hy;clear an;refine C1 Mv (C1 Px (C1 Px (C1 Pa (C1 Pa (cT (Aj (cS (C1 Mv (C1 V2 (cT (BP rfl (λao=>?_) (λao=>?_))))))))))));refine cS (C1 Mv (C1 Pa (C1 Pa (cT (AU (At (Bc rfl rfl rfl ?_)))))));rotate_left;refine Am (Ai (Aj (cS (C1 Pf (C1 (Pl G) (C1 Pz (C1 V1 (cT (MS (Am (Ai (cS (C1 Pf (C1 (Pl G) (C1 Pi (C1 (Yd V) (C1 Mv (cC rfl (HY.out _ _ _ _ Af Af) ?_))))))))))))))))));rintro _ ay ⟨⟨⟩,ac⟩;revert G X;refine eE ac ?_;intro G X;clear ac;refine C1 Mv (C1 Px (C1 Px (C1 Pa (C1 Pa (cT (Aj (cS (C1 Mv (C1 V2 (cT (BP rfl (λap=>?_) (λap=>?_))))))))))));refine cS (C1 Mv (C1 Pa (C1 Pa (cT (AU (At (Bc rfl rfl rfl ?_)))))))
    rotate_left;refine Am (Ai (cS (C1 Pg (C1 (Pl G) (C1 Mv (C1 Mv (cC rfl (SL _ _ _ _) ?_)))))));rintro _ az ⟨⟨⟩,rfl⟩;refine C1 Px (C1 Px (C1 Pa (C1 Pa (cT (AU (Bc rfl rfl rfl ?_))))));rotate_left
   . exact ⟨by rw [AT Ab],X⟩
   . exact ⟨by rw [AC Ab,AT Ab],X⟩
   . exact ⟨by rw [AC Ab,AC Ab],X⟩
def OwnI (w:wD) (B:Nat) (v:Value) (xs:List Int):Prop:=Own w B 3 1 v xs.length (AX xs)
def OwnI.ext {w w':wD} {B:Nat} {v:Value} {xs:List Int} (h:OwnI w B v xs) (x:Ext w w'):OwnI w' B v xs:=Own.ext h x
instance:LfE w w' (OwnI w B v xs) (OwnI w' B v xs):=⟨λx h=>Bk.OwnI.ext h x⟩
def OwnI.fr (h:OwnI w B v xs) (x:Fr S w w') (G:∀k,v.ownBlock=some k -> ¬S k):OwnI w' B v xs:=mO h x G
instance:LfF S w w' (OwnI w B v xs) (∀k,v.ownBlock=some k -> ¬S k) (OwnI w' B v xs):=⟨λx s h=>Bk.OwnI.fr h x s⟩
def OwnI.open (h:OwnI w B v xs):(v = .slice none 0 0/\xs=[]) \/ ∃g cap zs,v = .slice (some ⟨g,0,none⟩) xs.length cap/\B<=g/\TB w g (AX xs++zs) 3/\xs.length+zs.length=cap/\cap<=maxLen:=by
 obtain ⟨-,⟨G,M⟩|⟨g,cap,cur,G,M,N,V,O,X,U⟩⟩:=h
 . exact gA ⟨G,List.length_eq_zero_iff.1 M⟩
 . refine gB ⟨g,cap,cur.toList.drop xs.length,G,M,?_,?_,O⟩
   . unfold TB;rw [N,<-U,kI,iT]
   . simp only [ky,jD];omega
def OwnI.mk {g:Nat} (G:B<=g) (h:TB w g (AX xs++zs) 3) (M:xs.length+zs.length<=maxLen):OwnI w B (.slice (some ⟨g,0,none⟩) xs.length (xs.length+zs.length)) xs:=by
 refine ⟨by simp [AX],gB ⟨g,_,(AX xs++zs).toArray,rfl,G,h,Ab,M,by simp [AX],?_⟩⟩;have e:xs.length*1=(AX xs).length:=by simp [AX]
 rw [e];simp
def OwnI.nil:OwnI w B (.slice none 0 0) []:=nm
def OwnI.shape (h:OwnI w B v xs):∃a c,v = .slice a xs.length c:=by
 rcases h.open with ⟨G,M⟩|⟨g,cap,zs,G,-⟩
 . exact ⟨none,0,by rw [G,M];rfl⟩
 . exact ⟨_,_,G⟩
def OwnI.at {w:wD} {B:Nat} {a:oA} {n c:Nat} {xs:List Int} (h:OwnI w B (.slice a n c) xs):IntsAt w xs a:=by
 rcases h.open with ⟨G,U⟩|⟨g,cap,zs,G,-,V,-⟩
 . exact gA (by rw [U];rfl)
 . simp only [iF] at G;obtain ⟨rfl,-⟩:=G;refine gB ⟨g,0,rfl,trivial,λi v M=>?_⟩;have N:i<(AX xs).length:=by
    rcases gQ i (AX xs).length with O|O
    . exact O
    . rw [gM O] at M;cases M
   exact V.blk.row i v (by rw [gN N];exact M)
def OwnI.low (h:OwnI w B v xs) (N:∀k,v.ownBlock=some k->n<=k):OwnI w n v xs:=by
 obtain ⟨M,O|⟨g,cap,cur,rfl,V,U⟩⟩:=h
 . exact ⟨M,gA O⟩
 . exact ⟨M,gB ⟨g,cap,cur,rfl,N g rfl,U⟩⟩
def OwnI.lt (h:OwnI w B v xs) {k:Nat} (G:v.ownBlock=some k):B<=k/\k<w.heap.size:=Own.blk h G
def Uh (w:wD) (q:Nat):Ext w (w.drewN q):=by
 induction q with
 | zero=>exact Ne w
 | succ q h=>exact h.drew
def Nl (w:wD) (q:Nat):Ext w (Sort.ahead w q):=by
 induction q with
 | zero=>exact Ne w
 | succ q h=>exact h.drew
def DY {e:TypeId} {b:Nat}:∀(us pre G post:lV) (w:wD),us.length=G.length->TB w b (pre++G++post) e->TB (w.setCells b pre.length us) b (pre++us++post) e
 | [],pre,G,post,w,M,h=>by
  obtain rfl:G=[]:=List.length_eq_zero_iff.1 M.symm;exact h
 | u::us,pre,[],post,w,M,h=>by simp at M
 | u::us,pre,m::G,post,w,M,h=>by
  have N:=TB.set (i:=pre.length) h u;have U:(pre++m::G++post).set pre.length u=(pre++[u])++G++post:=by simp
  rw [U] at N;have O:=DY us (pre++[u]) G post _ (by simpa using M) N;rw [show pre++u::us++post=(pre++[u])++us++post by simp];rw [gR,kB] at O;exact O
def DZ (b:Nat):∀(us:lV) (o:Nat) (w:wD),Fr (· = b) w (w.setCells b o us)
 | [],o,w=>mx _ w
 | u::us,o,w=>(Fr.setCell (S:=(· = b)) (mx _ w) ⟨b,o,none⟩ u (gA rfl)).trans (DZ b us (o+1) _)
def Ui {b n:Nat} {e:TypeId} {ys:List Int} (h:TB w b (AX xs++zs) e) (N:ys.length=xs.length):TB (Sort.putRow (iV .i64) w b 0 ys.toArray) b (AX ys++zs) e/\Fr (· = b) w (Sort.putRow (iV .i64) w b 0 ys.toArray):=by
 refine ⟨?_,?_⟩
 . unfold TB at h ⊢;unfold Sort.putRow Sort.mapBlock;simp only [kA,if_true,h,lr];unfold Sort.onCells;simp only [gE,Obj.cells.injEq,and_true];apply lO;simp only [Sort.putCells,Array.toList_mapIdx];apply ku;intro i;simp only [List.getElem?_mapIdx,gI,true_and,iR,lS,kP];by_cases M:i<ys.length
   . have G:i<xs.length:=by omega
     rw [gN (by simpa [AX] using G),gN (by simpa [AX] using M)];simp [AX,iD,fY M,fY G,M]
   . rw [gU (by simp [AX];omega),gU (by simp [AX];omega)];simp only [AX,jJ,N];cases zs[i-xs.length]? with
     | none=>rfl
     | some v=>rw [lr,AC Ab]
 . refine ⟨rfl,rfl,rfl,by simp [Sort.putRow,Sort.mapBlock],λk U O=>?_⟩;unfold Sort.putRow Sort.mapBlock;simp only [kA];rw [AC (λe=>O e.symm)]
def CloneR (xs:List Int) (w:wD):Ending->wD->Prop:=λe w'=> ∃a c,e = .returned (.slice a xs.length c)/\OwnI w' w.heap.size (.slice a xs.length c) xs/\(∀k,(iA a xs.length c).ownBlock=some k->w.heap.size<=k/\k<w'.heap.size)/\Ext w w'
def CloneR.ret (h:CloneR xs w e w'):∃v,e = .returned v:=by
 obtain ⟨_,_,h,-⟩:=h;exact ⟨_,h⟩
def Fo (xs:List Int) (hx:xs.length<=1000000) (a:oA) (c:Nat) (w:wD) (h:IntsAt w xs a):Calls prog 88 #[.slice a xs.length c] w (CloneR xs w):=by
 have key:∀(v:Value) (w':wD),w'.ownsRow w.heap.size 3 1 v xs.length (AX xs)->Ext w w'->CloneR xs w (.returned v) w':=λv w' G M=>by
  have G:OwnI w' w.heap.size v xs:=G;obtain ⟨U,V,rfl⟩:=G.shape;exact ⟨U,V,rfl,G,λk X=>G.lt X,M⟩
 cases a with
 | none=>
  obtain rfl:xs=[]:=by
   rcases h with h|⟨b,o,h,-⟩
   . simpa [AX] using h
   . cases h
  have N:=Any.slices_Clone_int_nil Tryz.lays2n15 0 c w;refine iY N ?_;rintro e w' ⟨rfl,rfl⟩;exact key _ _ nm (Ne _)
 | some p=>
  by_cases O:xs=[]
  . subst O;have N:=Any.slices_Clone_int_zero Tryz.lays2n15 p c w;refine iY N ?_;rintro e w' ⟨v,rfl,G,-,M⟩;exact key _ _ G M
  . obtain ⟨b,o,Y,Z⟩:=h.get O;cases Y;have N:=Any.slices_Clone_int Tryz.lays2n15 b o xs.length c xs w (gP _) Ab (λj hj=>by
     have:=Z.at (i:=j) (v:=.int .i64 (xs.getD j 0)) (by simp [AX,iD,fY hj,gY]);exact this)
    refine iY N ?_;rintro e w' ⟨v,rfl,G,-,M⟩;rw [gL] at G;exact key _ _ G M
def PutR (v:Value) (ys:List Int) (B:Nat) (w:wD):Ending->wD->Prop:=λe w'=> ∃a c,e = .returned (.slice a ys.length c)/\OwnI w' B (.slice a ys.length c) ys/\(∀k,(iA a ys.length c).ownBlock=some k->v.ownBlock=some k\/w.heap.size<=k)/\Fr (λk=>v.ownBlock=some k) w w'
def PutR.ret {ys:List Int} (h:PutR v ys B w e w'):∃u,e = .returned u:=by
 obtain ⟨_,_,h,-⟩:=h;exact ⟨_,h⟩
def LD {g:Nat} {vs:lV} {e:TypeId} (h:TB w g vs e):Row w ⟨g,0,none⟩ vs:=h.blk.row
def PL (xs:List Int):∀v∈AX xs,v.oneCell'=true:=λv h=>by
 obtain ⟨x,-,rfl⟩:=List.mem_map.1 h;rfl
def G6 (xs ys:List Int):AX (xs++ys)=AX xs++AX ys:=by simp [AX]
def Fp:maxLen=9223372036854775807:=rfl
def LE (xs:List Int) (hx:xs.length<=1000000) (B:Nat) (v:Value) (x:Int) (V:Nat) (w:wD) (hB:B<=w.heap.size) (h:OwnI w B v xs) (hv:Row w ⟨V,0,none⟩ [.int .i64 x]) :
 Calls prog 247 #[v,.int .i64 xs.length,.slice (some ⟨V,0,none⟩) 1 1] w (PutR v (xs++[x]) B w):=by
 have Z:∀(j:Nat) (u:Value),[iV .i64 x][j]? = some u->w.cell? ⟨V,0+j,none⟩=some u:=λj u M=>by
  have:=hv.at (i:=j) M;simpa using this
 have grow:∀(a:oA) (c:Nat),v = .slice a xs.length c->c<xs.length+1->xs.length<=c->(a=none->xs.length=0)->(∀q,a=some q -> ∀(j:Nat) (u:Value),(AX xs)[j]? = some u->w.cell? (q.add j)=some u) ->
  Calls prog 247 #[v,.int .i64 xs.length,.slice (some ⟨V,0,none⟩) 1 1] w (PutR v (xs++[x]) B w):=λa c ab h1 h2 X h4=>by
  subst ab;have hc:=Any2.slices_Insert_int_end_grow Tryz.lays2n21 a xs.length c V 0 1 1 (AX xs) [.int .i64 x] w C2 h2 h1 Ab (by simp [AX]) rfl X h4 Z (by simp [Value.oneCell']);refine iY hc ?_;rintro e w' ⟨rfl,rfl⟩;change PutR _ _ _ _ (.returned (.slice (some ⟨w.heap.size,0,none⟩) (xs.length+1) (grownCap w (xs.length+1) c 3))) (w.drew.alloc (.cells ((AX xs++[iV .i64 x]).toArray++jI (iV .i64 0).cells (grownCap w (xs.length+1) c 3-(xs.length+1))) 3));have g1:=grownCap_ge w (xs.length+1) c 3;have g2:=grownCap_le_maxLen w (xs.length+1) c 3 (by rw [Fp];omega);generalize grownCap w (xs.length+1) c 3=G at *;have ez:(jI (iV .i64 0).cells (G-(xs.length+1))).toList.length=G-(xs.length+1):=by
   rw [jD,size_zeroCells];show (G-(xs.length+1))*1=_;omega
  have hT:TB (w.drew.alloc (.cells ((AX xs++[iV .i64 x]).toArray++jI (iV .i64 0).cells (G-(xs.length+1))) 3)) w.heap.size (AX (xs++[x])++(jI (iV .i64 0).cells (G-(xs.length+1))).toList) 3:=by
   have:=I7 w.drew (AX (xs++[x])++(jI (iV .i64 0).cells (G-(xs.length+1))).toList) 3;rw [G6];rw [G6] at this;have e1:((AX xs++[iV .i64 x]).toArray++jI (iV .i64 0).cells (G-(xs.length+1)))=(AX xs++AX [x]++(jI (iV .i64 0).cells (G-(xs.length+1))).toList).toArray:=by
    apply lO;simp [AX]
   rw [e1];exact this
  have hO:=OwnI.mk (B:=B) hB hT (by rw [ez,gR,kB];omega);have N:(xs++[x]).length=xs.length+1:=by simp
  rw [ez,N,show xs.length+1+(G-(xs.length+1))=G by omega] at hO;refine ⟨some ⟨w.heap.size,0,none⟩,G,by rw [N],by rw [N];exact hO,λk hk=>?_,.of_ext ((Ne w).drew.alloc _)⟩;simp only [kw,gE] at hk;exact gB Ab
 rcases h.open with ⟨rfl,rfl⟩|⟨g,cap,zs,rfl,h2,X,h4,h5⟩
 . exact grow none 0 rfl AQ AQ (λ_=>rfl) (λq hq=>by cases hq)
 . have hr:∀q,some (⟨g,0,none⟩:Addr)=some q -> ∀(j:Nat) (u:Value),(AX xs)[j]? = some u->w.cell? (q.add j)=some u:=λq hq j u M=>by
    cases hq;have ac:j<(AX xs).length:=by
     rcases gQ j (AX xs).length with h'|h'
     . exact h'
     . rw [gM h'] at M;cases M
    exact LD X j u (by rw [gN ac];exact M)
   by_cases hc:cap<xs.length+1
   . exact grow _ cap rfl hc Ab (λh=>by cases h) hr
   . obtain ⟨z,Y,rfl⟩:∃z Y,zs=z::Y:=by
      cases zs with
      | nil=>simp at h4;omega
      | cons z Y=>exact ⟨z,Y,rfl⟩
     have O:w.cell? ⟨g,0+xs.length,none⟩=some z:=(LD X).at (i:=xs.length) (by rw [gU (by simp [AX])];simp [AX]);have ad:∀j,j<1->(w.cell? ⟨g,0+xs.length+j,none⟩).isSome=true:=λj M=>by
      obtain rfl:j=0:=by omega
      rw [kH,O];rfl
     have U:xs.length+1<=cap:=by omega
     have aa:cap<=9223372036854775807:=by rw [Fp] at h5;exact h5
     have ae:∀j,j<1->w.frozen? ⟨g,0+xs.length+j,none⟩=false:=λj M=>X.blk.free
     have af:=Any2.slices_Insert_int_end_room Tryz.lays2n21 g 0 xs.length cap V 0 1 1 [.int .i64 x] w C2 U aa rfl ad ae Z (by simp [Value.oneCell']);refine iY af ?_;rintro e w' ⟨rfl,rfl⟩;have e0:0+xs.length=(AX xs).length:=by simp [AX]
     rw [e0];have hT:=DY [.int .i64 x] (AX xs) [z] Y w rfl (by simpa using X);have hF:=DZ g [.int .i64 x] (AX xs).length w;rw [show AX xs++[iV .i64 x]=AX (xs++[x]) by simp [AX]] at hT;have hO:=OwnI.mk (B:=B) h2 hT (by simp at h4 ⊢;omega);have N:(xs++[x]).length=xs.length+1:=by simp
     rw [N,show xs.length+1+Y.length=cap by simp at h4;omega] at hO;exact ⟨some ⟨g,0,none⟩,cap,by rw [N],by rw [N];exact hO,λk hk=>gA hk,hF.weaken λb hb=>by subst hb;rfl⟩
def On {g:Nat} {vs:lV} {e:TypeId} (h:TB w g vs e):TB w.drew g vs e:=h.ext (Ne w).drew
def Nm {b:Nat} {vs:lV} (h:Blk w b vs):(∃t,w.shape? b=some (t,vs.length)) /\ ∀o,w.frozen? ⟨b,o,none⟩=false:=by
 obtain ⟨ty,h⟩:=h;refine ⟨⟨ty,by unfold World.shape?;rw [h];simp⟩,λo=>?_⟩;unfold World.frozen?;rw [h];simp
def PM (n:Nat):(jI (iV .i64 0).cells n).toList.length=n:=by
 rw [jD,size_zeroCells];show n*1=_;omega
def RA (xs:List Int) (hx:xs.length<=1000000) (Y:xs≠[]) (B:Nat) (v:Value) (x:Int) (V:Nat) (w:wD) (hB:B<=w.heap.size) (h:OwnI w B v xs) (hv:Blk w V [.int .i64 x]) (ae:v.ownBlock≠some V) :
 Calls prog 247 #[v,.int .i64 0,.slice (some ⟨V,0,none⟩) 1 1] w (PutR v (x::xs) B w):=by
 have aa:∀(j:Nat) (u:Value),[iV .i64 x][j]? = some u->w.cell? ⟨V,0+j,none⟩=some u:=λj u X=>by
  have:=hv.row.at (i:=j) X;simpa using this
 have hn:0<xs.length:=by
  cases xs with
  | nil=>exact absurd rfl Y
  | cons y ys=>simp
 have ab:∀u∈[iV .i64 x],u.oneCell'=true:=by simp [Value.oneCell']
 have O:(x::xs).length=xs.length+1:=by simp
 rcases h.open with ⟨rfl,rfl⟩|⟨g,cap,zs,rfl,h2,h3,h4,h5⟩
 . exact absurd rfl Y
 have ac:∀(j:Nat) (u:Value),(AX xs)[j]? = some u->w.cell? ⟨g,0+j,none⟩=some u:=λj u X=>by
  have af:j<(AX xs).length:=by
   rcases gQ j (AX xs).length with h'|h'
   . exact h'
   . rw [gM h'] at X;cases X
  exact (LD h3).at (i:=j) (by rw [gN af];exact X)
 by_cases hc:cap<xs.length+1
 . have U:=Any2.slices_Insert_int_grow Tryz.lays2n21 g 0 xs.length cap 0 V 0 1 1 (AX xs) [.int .i64 x] w hn C2 Ab hc Ab (by simp [AX]) rfl ac aa (PL xs) ab;refine iY U ?_;rintro e w' ⟨rfl,rfl⟩;change PutR _ _ _ _ (.returned (.slice (some ⟨w.heap.size,0,none⟩) (xs.length+1) (grownCap w (xs.length+1) cap 3))) ((((w.alloc (.cells (((AX xs).take 0).toArray++jI (iV .i64 0).cells (xs.length+1-0)++jI (iV .i64 0).cells (grownCap w (xs.length+1) cap 3-(xs.length+1))) 3)).drew.setCells w.heap.size 0 [iV .i64 x]).drew).setCells w.heap.size (0+1) ((AX xs).drop 0));have g1:=grownCap_ge w (xs.length+1) cap 3;have g2:=grownCap_le_maxLen w (xs.length+1) cap 3 (by rw [Fp];omega);generalize grownCap w (xs.length+1) cap 3=N at *;have z1:=PM (xs.length+1-0);have z2:=PM (N-(xs.length+1));have ag:=I7 w ((jI (iV .i64 0).cells (xs.length+1-0)).toList++(jI (iV .i64 0).cells (N-(xs.length+1))).toList) 3;have ea:(((AX xs).take 0).toArray++jI (iV .i64 0).cells (xs.length+1-0)++jI (iV .i64 0).cells (N-(xs.length+1)))=((jI (iV .i64 0).cells (xs.length+1-0)).toList++(jI (iV .i64 0).cells (N-(xs.length+1))).toList).toArray:=by
    apply lO;simp
   rw [ea];generalize (jI (iV .i64 0).cells (xs.length+1-0)).toList=Z1 at *;generalize (jI (iV .i64 0).cells (N-(xs.length+1))).toList=Z2 at *;obtain ⟨z,Z,rfl⟩:∃z Z,Z1=z::Z:=by
    cases Z1 with
    | nil=>simp at z1
    | cons z Z=>exact ⟨z,Z,rfl⟩
   have t1:=DY [.int .i64 x] [] [z] (Z++Z2) _ rfl (On (by simpa using ag));have t2:=DY (AX xs) [.int .i64 x] Z Z2 _ (by simp [AX] at z1 ⊢;omega) (On (by simpa using t1));rw [show [iV .i64 x]++AX xs=AX (x::xs) by simp [AX]] at t2;have hO:=OwnI.mk (B:=B) hB t2 (by rw [z2,O];omega);rw [z2,O,show xs.length+1+(N-(xs.length+1))=N by omega] at hO;have hF:Fr (λk=>k=w.heap.size) w ((((w.alloc (.cells (z::Z++Z2).toArray 3)).drew.setCells w.heap.size 0 [iV .i64 x]).drew).setCells w.heap.size (0+1) (AX xs)):=
    (mt ((Ne w).alloc _).drew).trans ((DZ _ _ _ _).trans ((mt (Ne _).drew).trans (DZ _ _ _ _)))
   refine ⟨some ⟨w.heap.size,0,none⟩,N,by rw [O],by rw [O];exact hO,λk hk=>?_,?_⟩
   . simp only [kw,gE] at hk;exact gB Ab
   . have hE:=(Ne w).fr hF (λk hk=>by omega);exact .of_ext hE
 . obtain ⟨z,M,rfl⟩:∃z M,zs=z::M:=by
    cases zs with
    | nil=>simp at h4;omega
    | cons z M=>exact ⟨z,M,rfl⟩
   obtain ⟨⟨tA,ah⟩,ad⟩:=Nm hv;obtain ⟨⟨tB,ai⟩,aj⟩:=Nm h3.blk;have ak:∀j,j<xs.length+1->(w.cell? ⟨g,0+j,none⟩).isSome=true:=λj X=>by
    have hl:j<(AX xs++z::M).length:=by simp [AX];omega
    rw [(LD h3).at (i:=j) (fY hl)];rfl
   have U:=Any2.slices_Insert_int_shift Tryz.lays2n21 g 0 xs.length cap 0 V 0 1 1 (AX xs) [.int .i64 x] w hn C2 Ab (by rw [Fp] at h5;exact h5) (λe=>ae (by rw [e];rfl)) (by simp [AX]) rfl ac ak (λj _=>aj _) aa (PL xs) ab
    tA tB 1 (AX xs++z::M).length ah ai AQ (ad _) (ad _)
   refine iY U ?_;rintro e w' ⟨rfl,rfl⟩;change PutR _ _ _ _ (.returned (.slice (some ⟨g,0,none⟩) (xs.length+1) cap)) ((w.drew.setCells g 1 (AX xs)).setCells g 0 [iV .i64 x]);obtain ⟨a,G,hm,al⟩:∃a G,AX xs++[z]=a::G/\G.length=(AX xs).length:=by
    cases hq:AX xs++[z] with
    | nil=>simp at hq
    | cons a G=>
     refine ⟨a,G,rfl,?_⟩;have h8:=congrArg List.length hq;rw [gR,kB,gH] at h8;omega
   have t0:TB w.drew g ([a]++G++M) 3:=by
    have:=On h3;rw [show AX xs++z::M=(AX xs++[z])++M by simp,hm] at this;simpa using this
   have t1:=DY (AX xs) [a] G M _ al.symm t0;have t2:=DY [.int .i64 x] [] [a] (AX xs++M) _ rfl (by simpa using t1);rw [show []++[iV .i64 x]++(AX xs++M)=AX (x::xs)++M by simp [AX]] at t2;have hO:=OwnI.mk (B:=B) h2 t2 (by simp at h4 ⊢;omega);rw [O,show xs.length+1+M.length=cap by simp at h4;omega] at hO;have hF:Fr (λk=>k=g) w ((w.drew.setCells g 1 (AX xs)).setCells g 0 [iV .i64 x]):=(mt (Ne w).drew).trans ((DZ _ _ _ _).trans (DZ _ _ _ _));exact ⟨some ⟨g,0,none⟩,cap,by rw [O],by rw [O];exact hO,λk hk=>gA hk,hF.weaken λb hb=>by subst hb;rfl⟩
def Nn (xs:List Int) (hx:xs.length<=1000000) (i:Nat) (M:i<xs.length) (B:Nat) (v:Value) (w:wD) (h:OwnI w B v xs) :
 Calls prog 246 #[v,.int .i64 i,.int .i64 ((i:Int)+1)] w (PutR v (xs.eraseIdx i) B w):=by
 rcases h.open with ⟨rfl,rfl⟩|⟨g,cap,zs,rfl,Y,N,h4,U⟩
 . simp at M
 have Z:Sort.Holds (iV .i64) w g 0 xs.toArray:=λj G=>by
  have G:j<xs.length:=by simpa using G
  refine ⟨?_,N.blk.free⟩;have:=(LD N).at (i:=j) (v:=.int .i64 xs[j]) (by rw [gN (by simpa [AX] using G)];simp [AX,fY G]);rw [this];simp [G]
 have O:=Any.slices_Delete_int Tryz.lays2n23 g 0 cap i (i+1) xs w Z Ab (by rw [Fp] at U;exact U) Ab Ab;refine iY O ?_;rintro e w' ⟨rfl,q,rfl⟩;have ee:xs.take i++xs.drop (i+1)++iK (i+1-i) 0=xs.eraseIdx i++[0]:=by
  rw [show i+1-i=1 by omega,List.eraseIdx_eq_take_drop_succ];simp
 rw [ee];have hl:(xs.eraseIdx i++[0]).length=xs.length:=by
  rw [gR,List.length_eraseIdx_of_lt M,kB];omega
 obtain ⟨V,f1⟩:=Ui (n:=0) (N.ext (Nl w q)) hl;rw [G6,iG] at V;have e2:(xs.eraseIdx i).length=xs.length-(i+1-i):=by rw [List.length_eraseIdx_of_lt M];omega
 have X:=OwnI.mk (B:=B) Y V (by simp [AX];omega);have e3:(xs.eraseIdx i).length+(AX [0]++zs).length=cap:=by simp [AX];omega
 rw [e3] at X;refine ⟨some ⟨g,0,none⟩,cap,by rw [e2],X,λk hk=>gA hk,?_⟩;exact ((mt (Nl w q)).trans f1).weaken λb hb=>by subst hb;rfl
def LF (xs ys:List Int) (hx:xs.length<=1000000) (hy:ys.length<=1000000) (a N:oA) (c O:Nat) (w:wD) (h:IntsAt w xs a) (Z:IntsAt w ys N) :
 Calls prog 124 #[.slice a xs.length c,.slice N ys.length O] w λe w'=>e = .returned (.bool (decide (xs=ys)))/\Ext w w':=by
 by_cases G:xs=[]
 . subst G;have U:=Any.slices_Equal_int_empty Tryz.laysn111 a N c ys.length O w Ab;refine iY U ?_;rintro e w' ⟨rfl,rfl⟩;refine ⟨?_,Ne _⟩;cases ys<;>simp
 . by_cases M:ys=[]
   . subst M;have X:=Ne w;have hn:(xs.length:Int)≠0:=by
      cases xs with
      | nil=>exact absurd rfl G
      | cons z r=>simp;omega
     have ed:decide (xs=([]:List Int))=false:=decide_eq_false G;rw [ed];refine Ad func124 ntmps124 rfl rfl (kR ?_);exact ⟨rfl,X⟩
   . obtain ⟨b,o,rfl,hr⟩:=h.get G;obtain ⟨b',o',rfl,V⟩:=Z.get M;have U:=Any.slices_Equal_int Tryz.laysn111 b o xs.length c b' o' ys.length O xs ys w (gP _) (gP _) Ab Ab (λj Y=>hr.at (i:=j) (v:=.int .i64 (xs.getD j 0)) (by simp [AX,iD,fY Y,gY]))
      (λj Y=>V.at (i:=j) (v:=.int .i64 (ys.getD j 0)) (by simp [AX,iD,fY Y,gY]))
     refine iY U ?_;rintro e w' ⟨rfl,q,rfl⟩;rw [gL,gL];exact ⟨by rw [FE],Uh w q⟩
structure SV where
 cells:List (List Int)
 tin:List Int
 tout:List Int
def ZQ (S:nP) (w:wD) (b o:Nat) (xs:List Int):Prop:= ∃a c,Row w ⟨b,o,none⟩ [.slice a xs.length c]/\Rows S w (AX xs) a
def ICs (S:nP) (w:wD) (l:List (List Int)) (a:oA):Prop:=Arr S 1 (ZQ S) w l a
abbrev SV.row (s:SV) (a:oA) (c:Nat) (ta:oA) (tc:Nat) (oa:oA) (oc:Nat):lV:=[.slice a s.cells.length c,.slice ta s.tin.length tc,.slice oa s.tout.length oc]
structure SV.sits (S:nP) (w:wD) (s:SV) (a ta oa:oA):Prop where
 cells:ICs S w s.cells a
 tin:Rows S w (AX s.tin) ta
 tout:Rows S w (AX s.tout) oa
section
variable {S' T:nP} {l:List (List Int)} {ta oa:oA} {s:SV}
def ICs.ext (h:ICs S w l a) (x:Ext w w'):ICs S w' l a:=h.mono aFh (λ_ _ _ _ _ ⟨a,c,h1,h2⟩=>⟨a,c,h1.ext x,h2.ext x⟩)
instance  : LfE w w' (ICs S w l a) (ICs S w' l a):=⟨λx h=>Bk.ICs.ext h x⟩
def ICs.fr (h:ICs S w l a) (x:Fr T w w') (G:∀b,S b -> ¬T b):ICs S w' l a:=h.mono aFh (λb _ _ _ M ⟨a,c,h1,h2⟩=>⟨a,c,h1.fr x (G b M),h2.fr x G⟩)
instance  : LfF T w w' (ICs S w l a) (∀b,S b -> ¬T b) (ICs S w' l a):=⟨λx s h=>Bk.ICs.fr h x s⟩
def ICs.wide (h:ICs S w l a) (G:∀b,S b->S' b):ICs S' w l a:=h.mono G (λ_ _ _ _ _ ⟨a,c,h1,h2⟩=>⟨a,c,h1,h2.wide G⟩)
def ICs.ltA (h:ICs S w l a):ICs (· < w.heap.size) w l a:=by
 rcases h with h|⟨b,o,N,V,M⟩
 . exact gA h
 . cases l with
   | nil=>exact gA rfl
   | cons v r=>
    refine gB ⟨b,o,N,?_,λi x O=>?_⟩
    . obtain ⟨a,c,G,-⟩:=M 0 v rfl;exact Ci (mE G rfl)
    . obtain ⟨a,c,G,U⟩:=M i x O;exact ⟨a,c,G,U.ltA⟩
def ICs.get (h:ICs S w l a) (G:l≠[]):∃b o,a=some ⟨b,o,none⟩/\S b /\ ∀i x,l[i]? = some x->ZQ S w b (o+i*1) x:=by
 rcases h with h|⟨b,o,M,N,O⟩
 . exact absurd h G
 . exact ⟨b,o,M,N,λi v U=>O i v U⟩
def SV.sits.ext (h:s.sits S w a ta oa) (x:Ext w w'):s.sits S w' a ta oa:=⟨h.cells.ext x,h.tin.ext x,h.tout.ext x⟩
instance  : LfE w w' (s.sits S w a ta oa) (s.sits S w' a ta oa):=⟨λx h=>Bk.SV.sits.ext h x⟩
def SV.sits.fr (h:s.sits S w a ta oa) (x:Fr T w w') (G:∀b,S b -> ¬T b):s.sits S w' a ta oa:=⟨h.cells.fr x G,h.tin.fr x G,h.tout.fr x G⟩
instance  : LfF T w w' (s.sits S w a ta oa) (∀b,S b -> ¬T b) (s.sits S w' a ta oa):=⟨λx s h=>Bk.SV.sits.fr h x s⟩
def SV.sits.wide (h:s.sits S w a ta oa) (G:∀b,S b->S' b):s.sits S' w a ta oa:=⟨h.cells.wide G,h.tin.wide G,h.tout.wide G⟩
def SV.sits.ltA (h:s.sits S w a ta oa):s.sits (· < w.heap.size) w a ta oa:=⟨h.cells.ltA,h.tin.ltA,h.tout.ltA⟩
end
def IN (v:VD):Prop:=((v.kind=1\/v.kind=3)/\v.len=0)\/(v.kind=2/\1<=v.len/\v.len<=16)
def CU (l:List VD):Prop:=l.length<=32 /\ ∀v∈l,IN v
def CV (v:VD):Int:=if v.kind=1 then 1 else v.len
def M0 (v:VD) (xs:List Int):Prop:=if v.kind=3 then xs.length<=1000 else (xs.length:Int)=CV v
def FitsP (l:List VD) (s:SV):Prop:=CU l/\s.cells.length=l.length/\s.tin.length<=4096/\s.tout.length<=4096 /\ ∀(i:Nat) (v:VD) (xs:List Int),l[i]? = some v->s.cells[i]? = some xs->M0 v xs
def Oo (l:List VD) (hl:l.length<=1000000) (S:nP) (a:oA) (c:Nat) (w:wD) (N:VDs S w l a) :
 Calls prog 152 #[.slice a l.length c] w λe w'=> ∃q,e = .returned (.bool q)/\(q=true↔CU l)/\Ext w w':=by
 have X:=Ne w;refine Ad func152 ntmps152 rfl rfl ?_;by_cases V:l.length<=32
 . refine cS (C1 Pa (cT (Aj (cS (C1 Mv (C1 Pz (C1 V5 (cT (Dd (Am (Ai ?_)))))))))));refine Aj (cS (C1 Mv (C1 Pz (C1 Mv (cT ?_)))));refine As ?_;refine AF (ι:=Nat) (λj=>[(2,.bool false),(8,.slice a l.length c),(9,.int .i64 l.length),(10,.int .i64 j)])
    (λj w'=>j<=l.length/\(∀v∈l.take j,IN v)/\VDs S w' l a/\Ext w w') (λj=>l.length-j) 0 sB ⟨gI _,AQ,N,X⟩ ?_
   rintro j w1 ⟨hj,O,N,X⟩;by_cases U:j<l.length
   . obtain ⟨kb,ko,rfl,kS,hk⟩:=mM N Ab;have rx:=hk j _ (fY U);have G:¬IN l[j] -> ¬CU l:=λh h2=>h (h2.2 _ (gK U))
     have M:IN l[j] -> ∀v∈l.take (j+1),IN v:=λh v hv=>by
      rw [gC U,jA,iB] at hv;rcases hv with hv|rfl
      . exact O v hv
      . exact h
     generalize l[j]=x at *;obtain ⟨xn,xk,xl⟩:=x;replace rx:Row w1 ⟨kb,ko+j*3,none⟩ [str xn,.int .u8 xk,.int .i64 xl]:=rx;simp only [IN] at G M
     focus
      refine eK ?_;refine xA [_,_,_] ?_;intro ah ai ae;refine eI [_,_,_] ae ?_;intro aj ak af _ _;revert X N;refine eE af ?_;intro X N;refine eK ?_;refine AA rfl (λag=>?_) (λag=>?_);refine eK ?_;refine BP rfl (λY=>?_) (λY=>?_);refine kR ?_;rotate_left;refine Am (Ah (Ah (Ai (Ak (C1 V7 (C1 Mv (Al ?_)))))));rotate_left;refine eK ?_;refine AA rfl (λZ=>?_) (λZ=>?_);refine eK ?_;refine BP rfl (λaa=>?_) (λaa=>?_);refine kR ?_;rotate_left;refine Am (Ah (Ah (Ai (Ak (C1 V7 (C1 Mv (Al ?_)))))));rotate_left;refine eK ?_;refine AA rfl (λab=>?_) (λab=>?_);refine eK ?_;refine B4 rfl rfl rfl (λac=>?_) (λac=>?_);refine kR ?_;rotate_left;refine eK ?_;refine AA rfl (λad=>?_) (λad=>?_);refine kR ?_;rotate_left;refine Am (Ah (Ah (Ai (Ak (C1 V7 (C1 Mv (Al ?_)))))));rotate_left;refine kR ?_;rotate_left
     . exact ⟨false,rfl,⟨λh=>(by cases h),λh=>absurd h (G Ab)⟩,X⟩
     . exact Av (j+1) sB ⟨Ab,M Ab,N,X⟩ Ab
     . exact ⟨false,rfl,⟨λh=>(by cases h),λh=>absurd h (G Ab)⟩,X⟩
     . exact Av (j+1) sB ⟨Ab,M Ab,N,X⟩ Ab
     . exact ⟨false,rfl,⟨λh=>(by cases h),λh=>absurd h (G Ab)⟩,X⟩
     . exact ⟨false,rfl,⟨λh=>(by cases h),λh=>absurd h (G Ab)⟩,X⟩
     . exact Av (j+1) sB ⟨Ab,M Ab,N,X⟩ Ab
     . exact ⟨false,rfl,⟨λh=>(by cases h),λh=>absurd h (G Ab)⟩,X⟩
   . obtain rfl:j=l.length:=by omega
     rw [gL] at O;refine kR ?_;exact ⟨true,rfl,⟨λ_=>⟨V,O⟩,λ_=>rfl⟩,X⟩
 . refine kR ?_;exact ⟨false,rfl,⟨λh=>(by cases h),λh=>absurd h.1 V⟩,X⟩
def SS (v:VD) (w:wD):Calls prog 153 #[v.val] w λe w'=>e = .returned (.int .i64 (CV v))/\Ext w w':=by
 have X:=Ne w;obtain ⟨O,G,U⟩:=v;unfold CV;by_cases M:G=1
 . subst M;refine Ad func153 ntmps153 rfl rfl (cS (Dl [_,_,_] rfl rfl rfl ?_));intro b1 w2 N;have V:=N.blk;dsimp only at V;have Y:=N.ext;have X:=X.ext Y;refine kR ?_;exact ⟨rfl,X⟩
 . change Calls prog _ #[.agg #[str O,.int .u8 G,.int .i64 U]] w _;simp only [AC M];refine Ad func153 ntmps153 rfl rfl (cS (eB [_,_,_] ?_));intro Z aa ab h _ _;have X:=X.ext h;refine kR ?_;exact ⟨rfl,X⟩
def aG (l:List VD) (hl:l.length<=1000000) (s:SV) (S:nP) (a ca ta oa:oA) (c cc tc oc:Nat) (w:wD) (hn:s.cells.length<=1000000) (G:VDs S w l a) (hv:s.sits S w ca ta oa) :
 Calls prog 156 #[.slice a l.length c,.agg (s.row ca cc ta tc oa oc).toArray] w λe w'=> ∃q,e = .returned (.bool q)/\(q=true↔FitsP l s)/\Ext w w':=by
 have X:=Ne w;replace G:VDs (· < w.heap.size) w l a:=G.lt2.wide λ_ h=>h.2
 have hv:=hv.ltA;have HV:=fZ (λw1 h=>Oo l hl (· < w.heap.size) a c w1 h);obtain ⟨cells,U,tout⟩:=s;obtain ⟨M,-,-⟩:=hv;simp only at M hn;change Calls prog _ #[_,.agg #[.slice ca cells.length cc,.slice ta U.length tc,.slice oa tout.length oc]] w _;have hf:¬FitsP l ⟨cells,U,tout⟩ -> ∀w',Ext w w' -> ∃q,Ending.returned (.bool false) = .returned (.bool q)/\(q=true↔FitsP l ⟨cells,U,tout⟩)/\Ext w w':=λh w' x=>⟨false,rfl,⟨λh=>(by cases h),λV=>absurd V h⟩,x⟩
 by_cases e1:CU l
 . have Y:Hid (∀w1,VDs (· < w.heap.size) w1 l a->Calls prog 152 #[.slice a l.length c] w1 λe w'=>e = .returned (.bool true)/\Ext w1 w'):=fZ λw1 h=>(HV.out w1 h).mono λe w' ⟨q,h1,V,h3⟩=>⟨by rw [h1,V.2 e1],h3⟩
   clear HV;by_cases e2:cells.length=l.length
   . by_cases e3:U.length<=4096
     . by_cases e4:tout.length<=4096
       . refine Ad func156 ntmps156 rfl rfl ?_;refine cS (eB [_,_,_] ?_);intro b1 w2 N x5 p6 z7;revert X G M;refine eE x5 ?_;intro X G M;refine kC (Y.out _ Af) ?_;rintro _ w9 ⟨⟨⟩,x8⟩;revert N X G M;refine eY x8 ?_;intro bd N X G M;refine C1 Pt (C1 Mv (AP rfl rfl rfl (rfl) (C1 Pg (AP rfl rfl rfl (rfl) (C1 (Pl N) (AP rfl rfl rfl (rfl) (C1 Pz (AP rfl rfl rfl (rfl) (C1 Mv (AP rfl rfl rfl (rfl) (C1 Pz ?_)))))))))));refine AP rfl rfl rfl (rfl) (C1 V2 (C1 (Bu rfl rfl rfl) (C1 Mv (Ej (C1 Pf (Ej (C1 (Pl N) (Ej (C1 Pz (Ej (C1 V5 ?_)))))))))));refine C1 MV (C1 Mv (Ej (C1 Pf (Ej (C1 (Pl N) (Ej (C1 Pz (Ej (C1 V5 (C1 MV (cT ?_)))))))))));refine Dd (Am (Ai (Aj (cS (C1 Mv (C1 Pz (C1 Mv (cT ?_))))))));refine As ?_;refine AF (ι:=Nat) (λj=>[(3,.pointer (some ⟨b1,0,none⟩)),(4,.bool false),(30,.slice a l.length c),(31,.int .i64 l.length),(32,.int .i64 j)])
          (λj w'=>j<=l.length/\(∀(i:Nat) (v:VD) (xs:List Int),i<j->l[i]? = some v->cells[i]? = some xs->M0 v xs)/\Blk w' b1 [.slice ca cells.length cc,.slice ta U.length tc,.slice oa tout.length oc]/\VDs (· < w.heap.size) w' l a/\ICs (· < w.heap.size) w' cells ca/\Ext w w'/\b1+1<=w'.heap.size) (λj=>l.length-j) 0 sB ⟨gI _,λi v xs h=>by omega,N,G,M,X,Ab⟩ ?_
         clear N G M X;rintro j w1 ⟨hj,ad,N,G,M,X,hz⟩;by_cases ae:j<l.length
         . obtain ⟨kb,ko,rfl,kS,hk⟩:=mM G Ab;obtain ⟨db,be,rfl,dS,hd⟩:=M.get (by intro e;rw [e] at e2;simp at e2;omega);have rx:=hk j _ (fY ae);obtain ⟨xa,xc,ry,-⟩:=hd j _ (fY Ab);have Z:¬M0 l[j] cells[j] -> ¬FitsP l ⟨cells,U,tout⟩:=λh V=>h (V.2.2.2.2 j _ _ (fY ae) (fY (show j<cells.length by omega)))
           have aa:M0 l[j] cells[j] -> ∀(i:Nat) (v:VD) (xs:List Int),i<j+1->l[i]? = some v->cells[i]? = some xs->M0 v xs:=λh i v xs hi h1 V=>by
            by_cases e:i=j
            . subst e;rw [fY ae] at h1;rw [fY Ab] at V;rw [<-gJ h1,<-gJ V];exact h
            . exact ad i v xs Ab h1 V
           have HX:=fZ (λw1=>SS l[j] w1);clear hk hd ad;generalize l[j]=x at *;generalize cells[j]=xs at *;obtain ⟨xn,xk,xl⟩:=x;replace rx:Row w1 ⟨kb,ko+j*3,none⟩ [str xn,.int .u8 xk,.int .i64 xl]:=rx;unfold VD.val at HX;unfold M0 at Z aa;dsimp only at Z aa HX;by_cases af:xk=3
           . rw [AT af] at Z aa
             focus
              refine eK ?_;refine eA [_,_,_] ?_;intro bf bg au av bh bi;revert X G N M ry;refine eE av ?_;intro X G N M ry;refine C1 Pa (eS [_,_,_] au ?_);intro bj a6 ag a7;revert X G N M ry;refine eF ag ?_;intro X G N M ry;refine eK ?_;refine AA rfl (λah=>?_) (λah=>?_);refine kR ?_;rotate_left;refine Am (Ah (Ai (Ak (C1 V7 (C1 Mv (Al ?_))))));rotate_left
             . exact hf (Z Ab) _ X
             . exact Av (j+1) sB ⟨Ab,aa Ab,N,G,M,X,Ab⟩ Ab
           . rw [AC af] at Z aa
             focus
              refine eK ?_;refine eA [_,_,_] ?_;intro bk bl aw ax bm bn;revert X G N M ry;refine eE ax ?_;intro X G N M ry;refine C1 Pa (eS [_,_,_] aw ?_);intro ai aj ak a8;revert X G N M ry;refine eF ak ?_;intro X G N M ry;refine eK ?_;refine Ap (λwz=>Ext ai wz) 8 (.pure 0 (.pure 1 (.pure 2 (.pure 3 (.pure 4 (.pure 5 (.pure 6 (.fork 7 .tail .none)))))))) mixed AR (Aa (Ae (Aa (Aa (Ae (Aa Ag)))))) ?_;intro al ac _;have O:(λwz=>Ext ai wz) al:=ac;simp only at O;have ab:=aj;have a9:=N;have am:=ry;revert X G N M;refine eY ac ?_;intro ba X G N M;refine ⟨O,?_⟩;refine eT ?_;refine Tq rfl (Ar Ac rfl rfl rfl (λwz hz=>mE (mw am hz) rfl)) (Tq rfl Pz (Tq rfl (xL [_,_,_] (λwz hz=>(my ab hz))) ?_));refine tC rfl rfl (HX.out _) ?_;rintro _ bb ⟨⟨⟩,an⟩;revert O X G N M;refine eY an ?_;intro bc O X G N M;refine ⟨O,?_⟩;refine Aq rfl ?_;refine eK ?_;refine BP rfl (λao=>?_) (λao=>?_);refine kR ?_;rotate_left;refine Am (Ah (Ai (Ak (C1 V7 (C1 Mv (Al ?_))))));rotate_left
             . exact hf (Z Ab) _ X
             . exact Av (j+1) sB ⟨Ab,aa Ab,N,G,M,X,Ab⟩ Ab
         . obtain rfl:j=l.length:=by omega
           refine kR ?_;exact ⟨true,rfl,⟨λ_=>⟨e1,e2,e3,e4,λi v xs h1 V=>ad i v xs (by have:=List.getElem?_eq_some_iff.1 h1;exact this.1) h1 V⟩,λ_=>rfl⟩,X⟩
       . refine Ad func156 ntmps156 rfl rfl ?_;refine cS (eB [_,_,_] ?_);intro bo bp ap ay _ _;revert X G;refine eE ay ?_;intro X G;refine kC (Y.out _ Af) ?_;rintro _ bq ⟨⟨⟩,az⟩;revert ap X;refine eE az ?_;intro ap X;refine kR ?_;exact hf (λh=>e4 h.2.2.2.1) _ X
     . refine Ad func156 ntmps156 rfl rfl ?_;refine cS (eB [_,_,_] ?_);intro br bs aq a0 _ _;revert X G;refine eE a0 ?_;intro X G;refine kC (Y.out _ Af) ?_;rintro _ bt ⟨⟨⟩,a1⟩;revert aq X;refine eE a1 ?_;intro aq X;refine kR ?_;exact hf (λh=>e3 h.2.2.1) _ X
   . refine Ad func156 ntmps156 rfl rfl ?_;refine cS (eB [_,_,_] ?_);intro bu bv ar a2 _ _;revert X G;refine eE a2 ?_;intro X G;refine kC (Y.out _ Af) ?_;rintro _ bw ⟨⟨⟩,a3⟩;revert ar X;refine eE a3 ?_;intro ar X;refine kR ?_;exact hf (λh=>e2 h.2.1) _ X
 . have Y:Hid (∀w1,VDs (· < w.heap.size) w1 l a->Calls prog 152 #[.slice a l.length c] w1 λe w'=>e = .returned (.bool false)/\Ext w1 w'):=fZ λw1 h=>(HV.out w1 h).mono λe w' ⟨q,h1,V,h3⟩=>⟨by rw [h1,show q=false by cases q with|false=>rfl|true=>exact absurd (V.1 rfl) e1],h3⟩
   clear HV;refine Ad func156 ntmps156 rfl rfl ?_;refine cS (eB [_,_,_] ?_);intro bx bz _ a4 _ _;revert X G;refine eE a4 ?_;intro X G;refine kC (Y.out _ Af) ?_;rintro _ b0 ⟨⟨⟩,a5⟩;have X:=X.ext a5;refine kR ?_;exact hf (λh=>e1 h.1) _ X
structure BoxV where
 v:Int
 l:Int
 i:Int
 deriving DecidableEq
def BoxV.ok (b:BoxV):Prop:=(0<=b.v/\b.v<=1000)/\(0<=b.l/\b.l<=1000)/\0<=b.i/\b.i<=1000
instance (b:BoxV):Decidable b.ok:=by unfold BoxV.ok;infer_instance
instance (v:VD):Decidable (IN v):=by unfold IN;infer_instance
instance (l:List VD):Decidable (CU l):=by unfold CU;infer_instance
def Jk (b:BoxV) (v:VD):Int×Int:=if v.kind=3 then (0,b.l) else (CV v,CV v)
def CJ (vs:List VD) (b:BoxV):List (Int×Int):=vs.map (Jk b)++[(0,b.i)]
def FI (x y:Int):Int:=if 1099511627776/y<x then 1099511627777 else x*y
def LG (least y:Int):Nat->Int×Int
 | 0=>(0,1)
 | n+1=>(if least<=n then min ((LG least y n).1+(LG least y n).2) 1099511627777 else (LG least y n).1,FI (LG least y n).2 y)
def LH (p:Int×Int) (y:Int):Int:=(LG p.1 y (p.2+1).toNat).1
def DE (l:List (Int×Int)) (y:Int):Int:=l.foldl (λs p=>FI s (LH p y)) 1
def G7 (vs:List VD) (b:BoxV):Int×Int:=
 if b.ok/\CU vs then (if 1099511627776<DE (CJ vs b) (2*b.v+1) then (0,5) else (DE (CJ vs b) (2*b.v+1),0)) else (0,1)
def Oq {x:Int} (G:1<=x) (M:x<=1099511627777) (N:1<=k):1<=FI x k/\FI x k<=1099511627777:=by
 unfold FI;split
 . omega
 . rename_i h;have O:x<=1099511627776/k:=by omega
   have U:x*k<=1099511627776/k*k:=Int.mul_le_mul_of_nonneg_right O Ab;have V:=Int.ediv_mul_le 1099511627776 (b:=k) Ab;have X:1*1<=x*k:=Int.mul_le_mul G N Ab Ab;omega
def Os (G y:Int) (M:1<=y):∀n,1<=(LG G y n).2/\(LG G y n).2<=1099511627777
 | 0=>by simp [LG]
 | n+1=>by
  have h:=Os G y M n;simp only [LG];exact Oq h.1 h.2 M
def Ot (G y:Int) (M:1<=y):∀n:Nat,0<=(LG G y n).1/\(LG G y n).1<=1099511627777/\(G<(n:Int)->1<=(LG G y n).1\/G<0/\n=0)
 | 0=>by simp [LG]
 | n+1=>by
  have h:=Ot G y M n;have N:=Os G y M n;simp only [LG];split
  . refine ⟨Ab,Ab,λ_=>gA Ab⟩
  . exact ⟨h.1,h.2.1,λO=>by omega⟩
def VO {p:Int×Int} (G:1<=k) (M:0<=p.1) (N:p.1<=p.2):1<=LH p k/\LH p k<=1099511627777:=by
 have h:=Ot p.1 k G (p.2+1).toNat;unfold LH;refine ⟨?_,h.2.1⟩;rcases h.2.2 Ab with h|h
 . exact h
 . omega
def No:∀(l:List (Int×Int)) (s y:Int),1<=y->(∀p∈l,0<=p.1/\p.1<=p.2)->1<=s->s<=1099511627777->1<=l.foldl (λs p=>FI s (LH p y)) s/\l.foldl (λs p=>FI s (LH p y)) s<=1099511627777
 | [],s,y,_,_,G,M=>⟨G,M⟩
 | p::l,s,y,N,O,G,M=>by
  have U:=O p AQ;have h:=Oq G M (VO N U.1 U.2).1;exact No l _ y N (λq V=>O q (by simp [V])) h.1 h.2
def VP {b:BoxV} (h:b.ok) {v:VD} (G:IN v):0<=(Jk b v).1/\(Jk b v).1<=(Jk b v).2/\(Jk b v).2<=1000:=by
 unfold Jk;obtain ⟨-,M,-⟩:=h;split
 . simp only;omega
 . rename_i N;unfold CV;unfold IN at G;split<;>omega
def Ou {vs:List VD} {b:BoxV} (M:b.ok) (O:CU vs):∀p∈CJ vs b,0<=p.1/\p.1<=p.2/\p.2<=1000:=by
 intro p G;unfold CJ at G;rw [jA,List.mem_map,iB] at G;rcases G with ⟨v,h,rfl⟩|rfl
 . exact VP M (O.2 v h)
 . obtain ⟨-,-,N⟩:=M;exact ⟨AQ,N.1,N.2⟩
def JW (vs:List VD) (b:BoxV):(CJ vs b).length=vs.length+1:=by simp [CJ]
def KB:∀(us p q r:lV),us.length=q.length->Ba (p++q++r) p.length us=p++us++r
 | [],p,[],r,_=>by simp [Ba]
 | u::us,p,v::q,r,h=>by
  simp only [gH,Nat.add_right_cancel_iff] at h;have e:(p++v::q++r).set p.length u=(p++[u])++q++r:=by
   rw [iG,jX,kW _ _ (gP _),kp,lQ];simp
  rw [Ba,e];have:=KB us (p++[u]) q r h;rw [gR,gH,iM,iR] at this;rw [this];simp
def Fq {G:List lV} {j:Nat} (h:∀cs∈G,cs.length=n) (O:j<G.length):G.flatten=(G.take j).flatten++G[j]++(G.drop (j+1)).flatten/\(G.take j).flatten.length=j*n:=by
 constructor
 . have N:=(iT j G).symm;rw [gW O] at N;refine (congrArg List.flatten N).trans ?_;rw [lm,kG,iG]
 . rw [D7 (λcs M=>h cs (jO M)),iE];congr 1;omega
def RB {G:List lV} {j:Nat} {us:lV} (h:∀cs∈G,cs.length=n) (M:j<G.length) (U:us.length=n):Ba G.flatten (j*n) us=(G.set j us).flatten:=by
 obtain ⟨N,O⟩:=Fq h M;have V:G[j].length=n:=h _ (gK M);rw [N,<-O,KB us _ _ _ Ab];have e:G.set j us=G.take j++us::G.drop (j+1):=by rw [List.set_eq_take_append_cons_drop,AT M]
 rw [e,lm,kG,iG]
structure ArrS {α:Type} (sh:Shape α) (C D:Nat) (w:wD) (g:Nat) (xs:List α):Prop where
 ex:∃css:List lV,Blk w g css.flatten/\css.length=xs.length /\ ∀(i:Nat) (x:α) (cs:lV),xs[i]? = some x->css[i]? = some cs->sh.rep w (λb=>C<=b/\b<D) x cs
section
variable {sh:Shape α} {C D g:Nat} {xs:List α}
def ArrS.lt (h:ArrS sh C D w g xs):g<w.heap.size:=by
 obtain ⟨G,M,-⟩:=h.ex;exact M.lt
def ArrS.fr {T:nP} (h:ArrS sh C D w g xs) (x:Fr T w w') (N:∀k,T k->(k<C\/D<=k)/\k≠g):ArrS sh C D w' g xs:=by
 obtain ⟨G,O,U,V⟩:=h.ex;exact ⟨G,O.fr x (λM=>(N g M).2 rfl),U,λi y cs X Y=>sh.mono (V i y cs X Y) aFh (λb o u hb Z=>x.keep (λM=>by have:=(N b M).1;omega) Z)⟩
instance {T:nP}:LfF T w w' (ArrS sh C D w g xs) (∀k,T k->(k<C\/D<=k)/\k≠g) (ArrS sh C D w' g xs):=⟨λx s h=>Bk.ArrS.fr h x s⟩
def ArrS.ext (h:ArrS sh C D w g xs) (x:Ext w w'):ArrS sh C D w' g xs:=by
 obtain ⟨G,M,N,O⟩:=h.ex;exact ⟨G,M.ext x,N,λi y cs U V=>sh.mono (O i y cs U V) aFh (λb o u Y X=>x.keep X)⟩
instance  : LfE w w' (ArrS sh C D w g xs) (ArrS sh C D w' g xs):=⟨λx h=>Bk.ArrS.ext h x⟩
def ArrS.wide (h:ArrS sh C D w g xs) (Y:D<=B):ArrS sh C B w g xs:=by
 obtain ⟨G,N,O,U⟩:=h.ex;exact ⟨G,N,O,λi y cs V X=>sh.mono (U i y cs V X) (λ_ h=>⟨h.1,Ab⟩) (λ_ _ _ _ h=>h)⟩
def ArrS.lens (h:ArrS sh C D w g xs) {G:List lV} (U:G.length=xs.length) (N:∀(i:Nat) (x:α) (cs:lV),xs[i]? = some x->G[i]? = some cs->sh.rep w (λb=>C<=b/\b<D) x cs):∀cs∈G,cs.length=sh.sz:=λcs M=>by
 obtain ⟨k,O,rfl⟩:=List.mem_iff_getElem.1 M;exact sh.len (N k xs[k] G[k] (fY Ab) (fY O))
def ArrS.row (h:ArrS sh C D w g xs) {j:Nat} {x:α} (N:xs[j]? = some x):∃cs,Row w ⟨g,0+j*sh.sz,none⟩ cs/\sh.rep w (λb=>C<=b/\b<D) x cs:=by
 obtain ⟨G,X,Y,V⟩:=h.ex;have Z:j<xs.length:=by
  rcases gQ j xs.length with h|h
  . exact h
  . rw [gM h] at N;cases N
 have hc:G[j]? = some G[j]:=fY Ab;obtain ⟨e1,e2⟩:=Fq (h.lens Y V) (show j<G.length by omega);refine ⟨G[j],λi v O=>?_,V j x _ N hc⟩;have U:i<G[j].length:=by
  rcases gQ i G[j].length with h|h
  . exact h
  . rw [gM h] at O;cases O
 have M:G.flatten[j*sh.sz+i]? = some v:=by
  rw [e1,iG,gU Ab,e2,lX,gN U];exact O
 have:=X.cell M;have e:(⟨g,0+j*sh.sz,none⟩:Addr).add i=⟨g,j*sh.sz+i,none⟩:=by unfold jY;by_cases h0:i=0<;>simp [h0]
 rw [e];exact this
def ArrS.made {z:α} (M:Blk w g (iK n zs).flatten) (N:∀w S,sh.rep w S z zs):ArrS sh C D w g (iK n z):=by
 refine ⟨iK n zs,M,AQ,λi x cs O U=>?_⟩;have h:=iI O;have G:=iI U;rw [List.mem_replicate] at h G;rw [h.2,G.2];exact N _ _
def ST {j:Nat} {x:α} {us:lV} {w1:wD} {h:List lV} (Y:h.length=xs.length) (V:∀(i:Nat) (x:α) (cs:lV),xs[i]? = some x->h[i]? = some cs->sh.rep w (λb=>C<=b/\b<D) x cs) (Z:j<xs.length) (hg:g<C\/D<=g) (X:sh.rep w (λb=>C<=b/\b<D) x us) (O:Put w w1 g (Ba h.flatten (j*sh.sz) us)):ArrS sh C D w1 g (xs.set j x):=by
 have hl:∀cs∈h,cs.length=sh.sz:=λcs U=>by
  obtain ⟨k,hk,rfl⟩:=List.mem_iff_getElem.1 U;exact sh.len (V k xs[k] h[k] (fY Ab) (fY hk))
 rw [RB hl Ab (sh.len X)] at O;refine ⟨h.set j us,O.blk,by simp [Y],λi y cs M N=>?_⟩;have key:sh.rep w (λb=>C<=b/\b<D) y cs:=by
  by_cases G:i=j
  . subst G;rw [jT Z] at M;rw [jT Ab] at N;rw [<-gJ M,<-gJ N];exact X
  . rw [iW (λe=>G e.symm)] at M N;exact V i y cs M N
 exact sh.mono key aFh (λb o u hb hu=>O.fr.keep (λe=>by omega) hu)
end
section
variable {P:Program} {l:Sl} {tab:Tab} {zt:Ee} {sh:Shape α}
def GE (K:wD->Prop):Option Value->wD->Prop
 | none,w=>K w
 | some _,_=>False
def Np {zs:lV} {k:Nat} (h:zs.length=k):∀N:Nat,(jQ (N*k)).map (λi=>zs.toArray[i%k]!)=(iK N zs).flatten
 | 0=>by simp
 | N+1=>by
  rw [kE,Nat.one_mul,List.range_add,jE,Np h N,l7,lm];congr 1;simp only [kG,List.flatten_nil,lw,List.map_map];apply mm
  . simp [h]
  . intro i G M;simp only [jJ,List.length_range] at G;simp only [lj,List.getElem_range,Function.comp];have:(N*k+i)%k=i:=by rw [Nat.mul_comm,Nat.mul_add_mod,Nat.mod_eq_of_lt G]
    rw [this];simp [M]
def BK {K X:wD->Prop} (h:∀(_:Unit) w1,K w1->X w1):∀v w1,GE K v w1->X w1:=λv w1 G=>by
 cases v with
 | none=>exact h () w1 G
 | some v=>exact G.elim
def Dj {t e sz C D:Nat} {sE:Sk} {x y:Operand} {N:Nat} {z:α} (T:TabOk P tab) (Z:Cj P zt) (ht:AB tab t=some (.slice e,B)) (hE:AB tab e=some (sE,sz)) (hz:CC zt e=some zs) (hzl:zs.length=sz)
 (hby:Dk P e=true) (hx:ev l x=some (.int .i64 (N:Int))) (hy:ev l y=some (.int .i64 (N:Int))) (hN:N<=100000000000) (hz0:∀w S,sh.rep w S z zs) :
 BG P n l (.makeSlice t x y) ty w (FQ λo w'=> ∃g,o = .slice (some ⟨g,0,none⟩) N N/\ArrS sh C D w' g (iK N z)/\g=w.heap.size/\w'.heap.size=g+1/\Ext w w'):=by
 unfold BG;intro a dst pos after gd next Q ha hn _;obtain ⟨i,v0,z1,z2,z3⟩:=EI Z hz;obtain ⟨i',hi',hs'⟩:=(T _ _ _ hE).info;rw [z1] at hi';obtain rfl:=gJ hi';have hbb:i.bytes<=1000:=by
  unfold Dk at hby;rw [z1] at hby;exact gV hby
 have hu:=(T _ _ _ ht).under;have b:(i.bytes:Int)*(N:Int)<=281474976710656:=by
  have:i.bytes*N<=1000*100000000000:=mp hbb hN;have h2:((i.bytes*N:Nat):Int)<=281474976710656:=by omega
  rwa [Int.natCast_mul] at h2
 have hr:=run_make (P:=P) w t e i v0 hu z1 z2 .i64 .i64 N N Ab (Int.le_refl _) b Ab;simp only [Int.toNat_natCast] at hr;have e2:(execOp a.eval ⟨dst,.makeSlice t x y,ty,pos,after,gd⟩).run P w = .ok (.value (.slice (some ⟨w.heap.size,0,none⟩) N N)) (w.alloc (.cells (madeCells v0.cells (N*i.size)) e)):=by
  simp only [execOp,ha.ev hx,ha.ev hy,gO,hr,jL,hH]
 have ecell:madeCells v0.cells (N*i.size)=(iK N zs).flatten.toArray:=by
  rw [z3];have hsz:zs.length=i.size:=by omega
  apply lO;simp only [madeCells,Array.toList_map,Array.toList_range,lS];rw [hsz];exact Np hsz N
 unfold km;rw [e2,ecell];have hnew:=Eg w (iK N zs).flatten e;exact hn _ _ ⟨w.heap.size,rfl,.made hnew.blk hz0,rfl,hnew.size,hnew.ext⟩
def B8 {x y:Operand} {t sz C D g j:Nat} {s:Sk} {us:lV} {xs:List α} {z:α} (T:TabOk P tab) (ht:AB tab t=some (s,sz)) (hx:ev l x=some (.pointer (some ⟨g,0+j*sh.sz,none⟩))) (hy:ev l y=some v) (hv:v.cells=us.toArray) (hl:us.length=sz) (h1:us.all mG=true)
 (hA:ArrS sh C D w g xs) (hj:j<xs.length) (hg:g<C\/D<=g) (hr:sh.rep w (λb=>C<=b/\b<D) z us) :
 BG P n l (.store t x y) ty w (GE λw'=>ArrS sh C D w' g (xs.set j z)/\Fr (· = g) w w'/\w'.heap.size=w.heap.size):=by
 obtain ⟨css,c1,c2,c3⟩:=hA.ex;have hfl:=D7 (hA.lens c2 c3);have hus:=sh.len hr;have hjs:j*sh.sz+sh.sz<=css.flatten.length:=by
  rw [hfl,c2,<-Nat.succ_mul];exact kF _ hj
 have hd:=DR (P:=P) (n:=n) (l:=l) (ty:=ty) T ht hx hy hv hl h1 c1 (by rw [md];omega);unfold BG at hd ⊢;intro a dst pos after gd next Q ha hn c;refine hd a dst pos after gd next Q ha (λv' w' h=>h.elim) (λw' hP=>c w' ?_);have hP':Put w w' g (Ba css.flatten (j*sh.sz) us):=by rw [show j*sh.sz=0+j*sh.sz by omega];exact hP
 exact ⟨ST c2 c3 hj hg hr hP',hP'.fr,hP'.size⟩
def FJ {x y:Operand} {t sz C D g j:Nat} {s:Sk} {us:lV} {xs:List α} {z:α} (T:TabOk P tab) (h:AB tab t=some (s,sz)) (G:ev l x=some (.pointer (some ⟨g,0+j*sh.sz,none⟩))) (M:ev l y=some v) (N:v.cells=us.toArray) (O:us.length=sz) (U:us.all mG=true)
 (V:ArrS sh C D w g xs) (X:j<xs.length) (Y:g<C) (Z:D<=w.heap.size) (hr:sh.rep w (λb=>C<=b) z us) :
 BG P n l (.store t x y) ty w (GE λw'=>ArrS sh C w.heap.size w' g (xs.set j z)/\Fr (· = g) w w'/\w'.heap.size=w.heap.size):=
 B8 T h G M N O U (V.wide Z) X (gA Y) (sh.lt hr)
end
section
variable {P:Program} {l:Sl} {tab:Tab} {zt:Ee}
end
def ED {P:Program} {l:Sl} {Q:Exit->Act->wD->Prop} {x y:Code} {ι:Type} (L:ι->Sl) (I:ι->wD->Prop) (h:CW P n x (Exit.then (λa w=> ∃i,Env n (L i) a/\I i w) Q) l w) (k:∀i w,I i w->CW P n y Q (L i) w):CW P n (.seq x y) Q l w:=
 Z6 _ h (λa w ⟨i,he,hi⟩=>by have:=k i w hi;unfold CW at this;exact this a he)
def BC {l:Sl} {Q:Exit->Act->wD->Prop} {ι:Type} {L:ι->Sl} {I:ι->wD->Prop} (i:ι) (G:SG (L i) l) (h:I i w):QW n (Exit.then (λa w=> ∃i,Env n (L i) a/\I i w) Q) .normal l w:=
 TC λ_ M=>⟨i,M.sub G,h⟩
mutual
def LJ {S:nP} {w:wD}:∀(l:List Nd) (a:oA),rowSits S w l a->rowSits (· < w.heap.size) w l a
 | [],_,_=>by simp [rowSits]
 | t::r,a,h=>by
  simp only [rowSits] at h ⊢;obtain ⟨b,o,a',c,rfl,hb,h0,h1,h2,h3,hs,hr⟩:=h;exact ⟨b,o,a',c,rfl,Ci h0,h0,h1,h2,h3,Yk t a' hs,LJ r _ hr⟩
def Yk {S:nP} {w:wD}:∀(t:Nd) (a:oA),t.sits S w a->t.sits (· < w.heap.size) w a
 | .mk _ _ _ l,a,h=>by
  simp only [m6] at h ⊢;exact LJ l a h
end
mutual
def KC {S:nP} {w:wD}:∀(l:List Nd) (a:oA),rowSits S w l a->rowSits (λb=>S b/\b<w.heap.size) w l a
 | [],_,_=>by simp [rowSits]
 | t::r,a,h=>by
  simp only [rowSits] at h ⊢;obtain ⟨b,o,a',c,rfl,hb,h0,h1,h2,h3,hs,hr⟩:=h;exact ⟨b,o,a',c,rfl,⟨hb,Ci h0⟩,h0,h1,h2,h3,PN t a' hs,KC r _ hr⟩
def PN {S:nP} {w:wD}:∀(t:Nd) (a:oA),t.sits S w a->t.sits (λb=>S b/\b<w.heap.size) w a
 | .mk _ _ _ l,a,h=>by
  simp only [m6] at h ⊢;exact KC l a h
end
def G8 (k:Int) (w:wD) (h0:0<=k) (h1:k<=255):Calls prog 151 #[.int .u8 k] w λe w'=>e = .returned (.int .u8 (Cm k))/\w=w':=by
 refine Ad func151 ntmps151 rfl rfl ?_
 focus
  refine eK ?_;refine AA rfl (λG=>?_) (λG=>?_);refine kR ?_;rotate_left;refine eK ?_;refine AA rfl (λM=>?_) (λM=>?_);refine kR ?_;rotate_left;refine eK ?_;refine AA rfl (λN=>?_) (λN=>?_);refine kR ?_;rotate_left;refine eK ?_;refine AA rfl (λO=>?_) (λO=>?_);refine kR ?_;rotate_left;refine eK ?_;refine AA rfl (λU=>?_) (λU=>?_);refine kR ?_;rotate_left;refine eK ?_;refine AA rfl (λV=>?_) (λV=>?_);refine kR ?_;rotate_left;refine eK ?_;refine AA rfl (λX=>?_) (λX=>?_);refine kR ?_;rotate_left;refine eK ?_;refine AA rfl (λY=>?_) (λY=>?_);refine kR ?_;rotate_left;refine eK ?_;refine AA rfl (λZ=>?_) (λZ=>?_);refine kR ?_;rotate_left;refine eK ?_;refine AA rfl (λh=>?_) (λh=>?_);refine kR ?_;rotate_left;refine kR ?_;rotate_left
 all_goals (refine ⟨congrArg (λx=>Ending.returned (.int .u8 x)) ?_,rfl⟩;unfold Cm;(repeat' split)<;>omega)
def CopyR (u:Nd) (w:wD):Ending->wD->Prop:=λe w'=> ∃a c,e = .returned (u.val a c)/\u.sits (λb=>w.heap.size<=b/\b<w'.heap.size) w' a/\Ext w w'
def CopyR.ret {u:Nd} (h:CopyR u w e w'):∃v,e = .returned v:=by
 obtain ⟨_,_,h,-⟩:=h;exact ⟨_,h⟩
def CopyC (u:Nd) (w:wD):Ending->wD->Prop:=λe w'=> ∃a c,e = .returned (u.val a c)/\u.sits (λb=>w.heap.size<=b/\b<w'.heap.size) w' a/\Ext w w'/\u.kids.length<=c
def CopyC.ret {u:Nd} (h:CopyC u w e w'):∃v,e = .returned v:=by
 obtain ⟨_,_,h,-⟩:=h;exact ⟨_,h⟩
def CopyC.copy {u:Nd} (h:CopyC u w e w'):CopyR u w e w':=by
 obtain ⟨a,c,G,M,N,-⟩:=h;exact ⟨a,c,G,M,N⟩
def SU {b e sz c:Nat} {cs:lV} (h:Own w b e sz (.slice a n c) n cs):n<=c:=by
 rcases h.2 with ⟨G,-⟩|⟨O,M,cur,G,-,-,N,-⟩
 . simp only [iF] at G;omega
 . simp only [iF] at G;obtain ⟨-,-,rfl⟩:=G;exact N
def En {n:Int} (h:(Nd.mk k n s l).sits S w a):rowSits S w l a:=h
def Yl (N:Nat):∀(t:Nd) (S:nP) (a:oA) (c:Nat) (w:wD),t.size<N->t.size<=1000000->t.sits S w a->Calls prog 59 #[t.val a c] w (CopyC t w):=by
 induction N with
 | zero=>intro t S a c w h;omega
 | succ N ih=>
  rintro ⟨k,n,s,l⟩ S a c w hN hM U;have aq:=Co l;simp only [mF] at hN hM;have hC:∀x∈l,∀(S:nP) (a:oA) (c:Nat) (w:wD),x.sits S w a->Calls prog 59 #[x.val a c] w (CopyC x w):=λx hx S a c w h=>by
   have:=CA hx;exact ih x S a c w Ab Ab h
  have HC:=fZ hC;have U:=B7 _ _ (En U);have X:=Ne w;refine Ad func59 ntmps59 rfl rfl (cS (eB [_,_,_,_] ?_));intro b1 w2 h4 x5 p6 z7;revert U X;refine eE x5 ?_;intro U X;refine eA [_,_,_,_] ?_;intro b8 w9 aj ak a7 a8;revert h4 U X;refine eE ak ?_;intro h4 U X;refine eK ?_;refine AF (ι:=Nat×List Nd×oA×Nat) (λx=>[(1,.pointer (some ⟨b1,0,none⟩)),(2,.pointer (some ⟨b8,0,none⟩)),(3,.slice x.2.2.1 x.2.1.length x.2.2.2),(7,.slice a l.length c),(8,.int .i64 l.length),(9,.int .i64 x.1)])
   (λx w'=>OwnL ndShape w' (b8+1) 29 (.slice x.2.2.1 x.2.1.length x.2.2.2) x.2.1/\x.1<=l.length/\x.2.1=l.take x.1/\rowSits (· < w.heap.size) w' l a/\Blk w' b1 [.int .u8 k,.int .i64 n,str s,.slice a l.length c]/\Blk w' b8 [.int .u8 0,.int .i64 0,str [],.slice none 0 0]/\Ext w w'/\b8+1<=w'.heap.size)
   (λx=>l.length-x.1) (0,[],none,0) sB ⟨OwnL.nil,gI _,rfl,U,h4,aj,X,Ab⟩ ?_
  rintro ⟨j,xs,ra,rc⟩ w1 ⟨G,hj,Y,U,O,M,X,hg⟩;simp only at G hj Y U O M X hg;have al:∀g,(iA ra xs.length rc).ownBlock=some g->g<w1.heap.size:=λg h=>G.lt h
  have a9:xs.length<=l.length:=by rw [Y,iE];omega
  refine m7 (m:=[(1,.pointer (some ⟨b1,0,none⟩)),(2,.pointer (some ⟨b8,0,none⟩)),(3,.slice ra xs.length rc),(7,.slice a l.length c),(8,.int .i64 l.length),(9,.int .i64 j)]) ?_ sB;by_cases Z:j<l.length
  . obtain ⟨kb,ko,rfl,kS,ad⟩:=BJ U (by intro e;subst e;simp at Z);obtain ⟨xa,xc,rx,sx⟩:=ad j l[j] (fY Z);have HX:=fZ (HC.out l[j] (gK Z));have ac:xs++[l[j]]=l.take (j+1):=by rw [Y,gC Z]
    generalize l[j]=x at *;refine eK ?_;refine xA [_,_,_,_] ?_;intro ba bb am;refine eI [_,_,_,_] am ?_;intro bc bd an be bf;revert G M X U O sx;refine eE an ?_;intro G M X U O sx;refine kQ (HX.out _ _ _ _ Af) ?_;rintro _ ar ⟨bg,au,⟨⟩,aa,ae,av⟩;revert G M X U O;refine eY ae ?_;intro aw G M X U O;refine Az (xS [_,_,_,_]) rfl ?_ aFh;rintro _ ax ⟨ay,rfl,V,az⟩;have a0:=V.blk;have af:=V.ext;have a1:=V.pos;have a2:=V.size;revert aa G M X U O;refine eE af ?_;intro aa G M X U O;refine Ru (sh:=ndShape) (z:=x) Ac Ca rfl rfl rfl rfl AR rfl rfl rfl G (mJ Af) ⟨_,_,rfl,Nd.sits.wide Af (λb h=>⟨Ab,λe=>by have:=al _ e;omega⟩)⟩ Ab Ab rfl ?_;rintro a3 ag a4 a5 ab;have a6:=ab.size;revert M X U O;refine eF ab ?_;intro M X U O;refine eK ?_;refine Av (j+1,xs++[x],some ⟨_,0,none⟩,_) sB ⟨Af,by simp only;omega,ac,U,O,M,X,Ab⟩ Ab
  . obtain rfl:j=l.length:=by omega
    rw [gL] at Y;subst Y;refine eK ?_;refine eV [_] [_,_,_,_] O ?_;intro bh bi ao _;revert G M X;refine eF ao ?_;intro G M X;refine eK ?_;refine eS [_,_,_,_] M ?_;intro bj ah ap _;revert G X;refine eF ap ?_;intro G X;refine kX ah ?_;have ai:=SU G.ex.choose_spec.1;exact ⟨ra,rc,rfl,PN (Nd.mk k n s xs) ra (SO (G.sits (S:=λb=>w.heap.size<=b) (λb h=>by omega))),X,ai⟩
def SW (t:Nd) (h:t.size<=1000000) (S:nP) (a:oA) (c:Nat) (w:wD) (G:t.sits S w a):Calls prog 59 #[t.val a c] w (CopyC t w):=Yl (t.size+1) t S a c w Ab h G
def Jl (t:Nd) (G:t.size<=1000000) (S:nP) (a:oA) (c:Nat) (w:wD) (M:t.sits S w a):Calls prog 59 #[t.val a c] w (CopyR t w):=iY (SW t G S a c w M) (λ_ _ h=>h.copy)
def PO (xs ys:List Nd) (i:Nat):Prop:=ys.length=xs.length /\ ∀k,k<xs.length->ys[k]? = if k<i\/xs.length-i<=k then xs[xs.length-1-k]? else xs[k]?
def Ym (xs:List Nd):PO xs xs 0:=⟨rfl,λk h=>by rw [AC Ab]⟩
def Uj {xs ys:List Nd} {i:Nat} (h:PO xs ys i) (M:xs.length<=2*i+1):ys=xs.reverse:=by
 apply ku;intro k;by_cases G:k<xs.length
 . rw [h.2 k G,List.getElem?_reverse G];split
   . rfl
   . have:xs.length-1-k=k:=by omega
     rw [this]
 . rw [gM (by rw [h.1];omega),gM (by rw [List.length_reverse];omega)]
def RD {xs ys:List Nd} {i:Nat} (h:PO xs ys i) (X:2*i+1<xs.length) {y:Nd} (G:ys[i]? = some x) (M:ys[xs.length-1-i]? = some y):PO xs ((ys.set i y).set (xs.length-1-i) x) (i+1):=by
 refine ⟨by simp [h.1],λk V=>?_⟩;have Y:=h.1;rw [h.2 i Ab,AC Ab] at G;rw [h.2 (xs.length-1-i) Ab,AC Ab] at M;by_cases N:k=xs.length-1-i
 . subst N;rw [jT (by simp [h.1];omega),AT Ab,show xs.length-1-(xs.length-1-i)=i by omega,G]
 . rw [iW (λe=>N e.symm)];by_cases O:k=i
   . subst O;rw [jT Ab,AT Ab,M]
   . rw [iW (λe=>O e.symm),h.2 k V];by_cases U:k<i\/xs.length-i<=k
     . rw [AT U,AT Ab]
     . rw [AC U,AC Ab]
def Uk (C D g cap:Nat) (xs:List Nd) (w:wD) (G:ArrS ndShape C D w g xs) (hg:g<C\/D<=g) (hl:xs.length<=1000000):Calls prog 150 #[.slice (some ⟨g,0,none⟩) xs.length cap] w λe w'=>e = .returned (.tuple #[])/\ArrS ndShape C D w' g xs.reverse/\Fr (· = g) w w':=by
 have X:=mx (· = g) w;by_cases hn:xs.length=0
 . have e0:xs=[]:=kq hn;subst e0;refine Ad func150 ntmps150 rfl rfl (eK ?_);refine C1 (AL rfl rfl (gG _ Ab)) (eK ?_);refine AF (ι:=Unit) (λ_=>[(2,.int .i64 0),(3,.int .i64 (-1))]) (λ_ w'=>ArrS ndShape C D w' g []/\Fr (· = g) w w') (λ_=>0) () sB ⟨G,X⟩ ?_;rintro _ w1 ⟨G,X⟩;refine Aj (cS (C1 Mv (C1 Mv (C1 V3 (cT (MS (BF (Ay (Ay (AS (Bi rfl ?_)))))))))));exact ⟨rfl,G,X⟩
 refine Ad func150 ntmps150 rfl rfl (eK ?_);refine C1 (AL rfl rfl (gG _ Ab)) (eK ?_);obtain ⟨m0,ad⟩:∃m:Nat,((xs.length:Int)-1)=(m:Int):=⟨xs.length-1,Ab⟩;rw [ad];refine AF (ι:=Nat×Nat×List Nd) (λx=>[(0,.slice (some ⟨g,0,none⟩) xs.length cap),(2,.int .i64 x.1),(3,.int .i64 x.2.1)]) (λx w'=>ArrS ndShape C D w' g x.2.2/\PO xs x.2.2 x.1/\x.1+x.2.1+1=xs.length/\Fr (· = g) w w') (λx=>x.2.1) (0,m0,xs) sB ⟨G,Ym xs,by simp only;omega,X⟩ ?_;rintro ⟨i,m,ys⟩ w1 ⟨G,hR,hm,X⟩;simp only at G hR hm;refine m7 (m:=[(0,.slice (some ⟨g,0,none⟩) xs.length cap),(2,.int .i64 i),(3,.int .i64 m)]) ?_ sB;have ah:=hR.1;by_cases ai:i<m
 . obtain ⟨x,hx⟩:∃x,ys[i]? = some x:=⟨_,fY Ab⟩;obtain ⟨y,hy⟩:∃y,ys[m]? = some y:=⟨_,fY Ab⟩;obtain ⟨_,r1,xa,xc,rfl,sx⟩:=G.row hx;obtain ⟨_,r2,ya,yc,rfl,sy⟩:=G.row hy;have U:=RD hR Ab hx (show ys[xs.length-1-i]? = some y by rw [show xs.length-1-i=m by omega];exact hy);rw [show xs.length-1-i=m by omega] at U;replace r1:Row w1 ⟨g,0+i*4,none⟩ _:=r1;replace r2:Row w1 ⟨g,0+m*4,none⟩ _:=r2;refine eK ?_;refine EK (λN=>Ext w1 N) (λN=>Fr (λx=>x=g) w1 N) [2,3,13,14,15] [2,3] 13 14 (.free 2 (.free 3 (.pure 0 (.pure 1 (.pure 4 (.pure 5 (.pure 6 (.pure 7 (.pure 8 (.pure 9 (.pure 10 (.pure 11 (.pure 12 (.put 13 (.tail 14))))))))))))))) (λ_ h=>mt h) mixed AR (Ae (Aa (Aa (Ae Ag)))) ?_;intro V O _;have Y:(λN=>Ext w1 N) V:=O;simp only at Y;have M:(λN=>Fr (λx=>x=g) w1 N) V:=mt O;simp only at M;have Z:=r1;have aa:=r2;revert G X sx sy;refine eE O ?_;intro G X sx sy;refine Bl Af rfl (Aw rfl) rfl (Bl Af rfl (Aw rfl) rfl (Ao Af rfl (Aw rfl) rfl (Ao Af rfl (Aw rfl) rfl (Ao Af rfl (Aw rfl) rfl (Ao Af rfl (Aw rfl) rfl (Ao Af rfl (AK Ac rfl rfl rfl rfl Ab Ab) rfl (Ao Af rfl (Bt Ac rfl rfl rfl (λN hz=>(mw aa hz)) rfl) rfl (Ao Af rfl (Aw rfl) rfl (Ao Af rfl (Aw rfl) rfl (Ao Af rfl (AK Ac rfl rfl rfl rfl Ab Ab) rfl (Ao Af rfl (Bt Ac rfl rfl rfl (λN hz=>(mw Z hz)) rfl) rfl (Ao Af rfl (AK Ac rfl rfl rfl rfl Ab Ab) rfl (Du rfl (B8 (sh:=ndShape) (j:=i) (z:=y) (us:=[_,_,_,_]) Ac rfl rfl rfl rfl rfl rfl G Ab hg ⟨_,_,rfl,Af⟩) (BK ?_))))))))))))))
   rintro _ aj ⟨ak,ab,al⟩;have M:=M.fr ab Ab;revert X sx;refine eF ab ?_;intro X sx;refine ⟨Af,(Dt rfl (C1 Pi (A9 (B8 (sh:=ndShape) (j:=m) (z:=x) (us:=[_,_,_,_]) Ac rfl rfl rfl rfl rfl rfl Af (by rw [kj];omega) hg ⟨_,_,rfl,Af⟩) (BK ?_))))⟩;rintro _ ae ⟨af,ac,ag⟩;have X:=X.fr ac Ab;refine eK ?_;refine C1 (AL rfl rfl (gG _ Ab)) (eK ?_);refine Av (i+1,m-1,(ys.set i y).set m x) (by (refine An rfl ?_;refine An rfl ?_;refine BO rfl (by go_num) ?_;exact BE)) ⟨Af,U,by simp only;omega,X⟩ (by simp only;omega)
 . have e:=Uj hR Ab;subst e;refine Aj (cS (C1 Mv (C1 Mv (C1 V3 (cT (Dd (BF (Ay (Ay (AS (Bi rfl ?_)))))))))));exact ⟨rfl,G,X⟩
def C7 (q:Bool) (k:Int) (x:Nd):Nd:=if k=57\/x.kind=57 then x.inv q else x
def RE (q:Bool) (l:List Nd):Cd q l=l.map (C7 q 57):=by
 induction l with
 | nil=>rfl
 | cons t r h=>simp only [Cd,iO,h,C7,true_or,if_true]
def PQ (q:Bool) (h:k≠57) (l:List Nd):Dm q l=l.map (C7 q k):=by
 induction l with
 | nil=>rfl
 | cons t r G=>simp only [Dm,iO,G,C7,h,false_or]
def FT (f:Nd->Nd) (l:List Nd) (j:Nat):List Nd:=(l.take j).map f++iK (l.length-j) BS
def RF (f:Nd->Nd) (l:List Nd) (j:Nat) (h:j<=l.length):(FT f l j).length=l.length:=by
 simp only [FT,gR,jJ,iE,List.length_replicate];omega
def RG (f:Nd->Nd) (l:List Nd) (j:Nat) (h:j<l.length):(FT f l j).set j (f l[j])=FT f l (j+1):=by
 unfold FT;have G:((l.take j).map f).length=j:=by simp;omega
 rw [kW _ _ Ab,G,kp,show l.length-j=(l.length-(j+1))+1 by omega,l8,lQ,gC h,jE,iG];rfl
def RH (f:Nd->Nd) (l:List Nd):FT f l l.length=l.map f:=by simp [FT]
def RI {n:Int} (h:(Nd.mk k n s l).isStmt=true\/(Nd.mk k n s l).isBlock=true):(∀x∈l,k=57\/x.kind=57->x.isStmt=true\/x.isBlock=true)/\(k=52\/k=53\/k=54->l≠[])/\40<=k/\k<=57:=by
 rcases h with h|h
 . have X:=Nf h;simp only [mY] at X;have G:∀x:Nd,x.isExpr=true -> ¬x.kind=57:=λx G=>by have:=Hw G;omega
   have key:∀x∈l,x.isBlock=true\/x.isExpr=true:=by
    cases Cg h with
    | call _ _ _ Y=>intro x G;exact gB (Gw (iJ.1 Y x G))
    | upd _ M O=>intro x G;simp only [gT,iX,or_false] at G;rcases G with rfl|rfl<;>first|exact gB (Be Af)|exact gB Af
    | swap M O=>intro x G;simp only [gT,iX,or_false] at G;rcases G with rfl|rfl<;>exact gB (Be Af)
    | stack _ _ M=>intro x G;simp only [gT,iX,or_false] at G;rw [G];exact gB (Be M)
    | tape _ M=>intro x G;simp only [gT,iX,or_false] at G;rw [G];exact gB (Be M)
    | branch _ M O Z h4=>intro x G;simp only [gT,iX,or_false] at G;rcases G with rfl|rfl|rfl|rfl<;>first|exact gB Af|exact gA Af
    | local_ _ M O Z=>intro x G;simp only [gT,iX,or_false] at G;rcases G with rfl|rfl|rfl<;>first|exact gB Af|exact gA Af
    | lstack _ M=>intro x G;simp only [gT,iX,or_false] at G;rw [G];exact gA M
   refine ⟨λx U N=>?_,λN=>?_,Ab,Ab⟩
   . rcases N with rfl|N
     . omega
     . rcases key x U with hb|he
       . exact gB hb
       . exact absurd N (G x he)
   . rintro rfl;cases Cg h with
     | call aa=>omega
 . obtain ⟨e,V⟩:=DU h;simp only [nb,Nd.mk.injEq,and_true] at e V;obtain ⟨rfl,-,-⟩:=e;exact ⟨λx G _=>gA (rowStmt_iff.1 V x G),λN=>by omega,Ab,Ab⟩
def PR (q:Bool) {n:Int} (hk:¬k=57):(Nd.mk k n s l).inv q=if k=52\/k=53\/k=54 then .mk k n s (F9 (l.map (C7 q k))) else .mk (if k=50\/k=51 then (if q then k else Cm k) else Cm k) n s (l.map (C7 q k)):=by
 conv=>lhs;unfold Nd.inv
 rw [AC hk,PQ q hk];by_cases h1:k=52\/k=53\/k=54
 . rw [AT h1,AT h1]
 . rw [AC h1,AC h1];by_cases h2:k=50\/k=51
   . rw [AT h2,AT h2]
   . rw [AC h2,AC h2]
def PS (w:wD) (S:nP):ndShape.rep w S BS [.int .u8 0,.int .i64 0,.string ⟨#[]⟩,.slice none 0 0]:=⟨none,0,rfl,VC⟩
def ArrS.sits {C D g:Nat} {w:wD} {xs:List Nd} (h:ArrS ndShape C D w g xs) {S:nP} (M:S g) (N:∀b,C<=b->b<D->S b):rowSits S w xs (some ⟨g,0,none⟩):=
 IK M xs 0 (λi x O=>by
  obtain ⟨cs,U,a,c,rfl,V⟩:=h.row O;exact ⟨a,c,U,Nd.sits.wide V (λb G=>N b G.1 G.2)⟩)
def DF {C g:Nat} {n:Int} {xs:List Nd} {m:Nat} (M:xs.length=m) (h:ArrS ndShape C w'.heap.size w' g xs) (N:w.heap.size<=g) (U:w.heap.size<=C) (X:Ext w w'):CopyR (.mk k n s xs) w (.returned (.agg #[.int .u8 k,.int .i64 n,str s,.slice (some ⟨g,0,none⟩) m m])) w':=by
 subst M;exact ⟨some ⟨g,0,none⟩,xs.length,rfl,SO (h.sits ⟨N,h.lt⟩ (λb O G=>⟨Ab,G⟩)),X⟩
def VQ (q:Bool) (N:Nat):∀(t:Nd) (S:nP) (a:oA) (c:Nat) (w:wD),t.size<N->t.size<=1000000->(t.isStmt=true\/t.isBlock=true)->t.sits S w a->Calls prog 111 #[t.val a c,.bool q] w (CopyR (t.inv q) w):=by
 induction N with
 | zero=>intro t S a c w h;omega
 | succ N ih=>
  rintro ⟨k,n,s,l⟩ S a c w hN hM hv hs;have hlen:=Co l;simp only [mF] at hN hM;obtain ⟨v1,v2,v3,v4⟩:=RI hv;clear hv;have hC:∀x∈l,(k=57\/x.kind=57) -> ∀(S:nP) (a:oA) (c:Nat) (w:wD),x.sits S w a->Calls prog 111 #[x.val a c,.bool q] w (CopyR (x.inv q) w):=λx hx hk S a c w h=>by
   have:=CA hx;exact ih x S a c w Ab Ab (v1 x hx hk) h
  clear ih v1;have HC:=fZ hC;clear hC;have hs:=B7 _ _ (En hs);have X:=Ne w;refine Ad func111 ntmps111 rfl rfl ?_;refine cS (eB [_,_,_,_] ?_);intro b1 w2 h4 x5 p6 z7;revert hs X;refine eE x5 ?_;intro hs X;refine eA [_,_,_,_] ?_;intro b8 w9 r cd et eu;revert h4 hs X;refine eE cd ?_;intro h4 hs X;refine cT ?_;refine ED (ι:=Nat×Nat) (λx=>[(1,.bool q),(2,.pointer (some ⟨b1,0,none⟩)),(4,.pointer (some ⟨b8,0,none⟩)),(5,.pointer (some ⟨x.1,0,none⟩))])
   (λx w'=>ArrS ndShape (b1+4) (b1+4) w' x.2 (iK l.length BS)/\Blk w' x.1 [.int .u8 k,.int .i64 n,str s,.slice (some ⟨x.2,0,none⟩) l.length l.length]/\b8<x.1/\b8<x.2/\x.1≠x.2/\x.1<b1+4/\x.2<b1+4/\Blk w' b1 [.int .u8 k,.int .i64 n,str s,.slice a l.length c]/\Blk w' b8 [.int .u8 0,.int .i64 0,str [],.slice none 0 0]/\rowSits (· < w.heap.size) w' l a/\Ext w w'/\w'.heap.size=b1+4) ?_ ?_
  . focus
     refine Ap (λwz=>Ext w9 wz) 12 (.pure 0 (.pure 1 (.pure 2 (.pure 3 (.pure 4 (.pure 5 (.pure 6 (.pure 7 (.pure 8 (.fork 9 (.pure 10 (.fork 11 .tail .none)) (.fork 11 (.fork 9 (.pure 10 .tail) .none) .none))))))))))) mixed AR (Aa Ag) ?_;intro aw a4 _;have o:(λwz=>Ext w9 wz) aw:=a4;simp only at o;have ce:=r;have cw:=h4;have T:=hs;revert r h4 hs X;refine eY a4 ?_;intro ev r h4 hs X;refine ⟨o,?_⟩;refine eT ?_;refine Ax rfl (Dj (sh:=ndShape) (C:=b1+4) (D:=b1+4) (N:=l.length) (z:=BS) Ac Ca rfl rfl rfl rfl AR rfl rfl Ab PS) rfl ?_ aFh ?kra5;rintro _ cx ⟨cf,rfl,U,ew,ex,a5⟩;revert o r h4 hs X;refine eY a5 ?_;intro cy o r h4 hs X;refine ⟨o,?_⟩;refine Tq rfl (xB [_,_,_,_]) ?_;refine Ax rfl (A3 Ca rfl) rfl ?_ aFh Au;rintro _ cz ⟨a6,rfl,O⟩;have ac:=O.blk;dsimp only at ac;have a7:=O.ext;have c0:=O.pos;have c1:=O.size;revert U o r h4 hs X;refine eE a7 ?_;intro U o r h4 hs X;refine ⟨o,?_⟩;refine Aq rfl (eS [_,_,_,_] ac ?_);intro c2 a8 a9 c3;revert U r h4 hs X;refine eF a9 ?_;intro U r h4 hs X;refine Al ?_;rotate_left;refine Ax rfl (A3 Ca rfl) rfl ?_ aFh Au;rintro _ c4 ⟨ba,rfl,Q⟩;have R:=Q.blk;dsimp only at R;have bb:=Q.ext;have c5:=Q.pos;have c6:=Q.size;revert o r h4 hs X;refine eE bb ?_;intro o r h4 hs X;refine ⟨o,?_⟩;refine Ax rfl (Dj (sh:=ndShape) (C:=b1+4) (D:=b1+4) (N:=l.length) (z:=BS) Ac Ca rfl rfl rfl rfl AR rfl rfl Ab PS) rfl ?_ aFh Au;rintro _ c7 ⟨bc,rfl,V,c8,c9,bd⟩;revert R o r h4 hs X;refine eY bd ?_;intro da R o r h4 hs X;refine ⟨o,?_⟩;refine Tq rfl (xB [_,_,_,_]) ?_;refine Aq rfl (eS [_,_,_,_] R ?_);intro db be bf dc;revert V r h4 hs X;refine eF bf ?_;intro V r h4 hs X;refine Al ?_;rotate_left
    . have hq:aw.heap.size=w9.heap.size:=congrArg Array.size Af;exact BC (a6,cf) sB ⟨U,a8,by simp only;omega,by simp only;omega,by simp only;omega,by simp only;omega,by simp only;omega,h4,r,hs,X,Ab⟩
    . have hq:aw.heap.size=w9.heap.size:=congrArg Array.size Af;exact BC (ba,bc) sB ⟨V,be,by simp only;omega,by simp only;omega,by simp only;omega,by simp only;omega,by simp only;omega,h4,r,hs,X,Ab⟩
  . clear h4 r hs X;rintro ⟨bm,g⟩ w1 ⟨hA,hbm,o1,o2,o3,o4,o5,d,f,hs,X,hz⟩;simp only at hA hbm o1 o2 o3 o4 o5;refine m7 (m:=[(1,.bool q),(2,.pointer (some ⟨b1,0,none⟩)),(4,.pointer (some ⟨b8,0,none⟩)),(5,.pointer (some ⟨bm,0,none⟩))]) ?_ sB;have e0:iK l.length BS=FT (C7 q k) l 0:=by simp [FT]
    rw [e0] at hA;refine ED (ι:=Unit) (λ_=>[(1,.bool q),(2,.pointer (some ⟨b1,0,none⟩)),(4,.pointer (some ⟨b8,0,none⟩)),(5,.pointer (some ⟨bm,0,none⟩))])
     (λ_ w'=>ArrS ndShape (b1+4) w'.heap.size w' g (l.map (C7 q k))/\Blk w' bm [.int .u8 k,.int .i64 n,str s,.slice (some ⟨g,0,none⟩) l.length l.length]/\Blk w' b1 [.int .u8 k,.int .i64 n,str s,.slice a l.length c]/\Blk w' b8 [.int .u8 0,.int .i64 0,str [],.slice none 0 0]/\Ext w w'/\b1+4<=w'.heap.size) ?_ ?_
    . refine cS (C1 Pf (C1 (Pl d) (C1 Pz (C1 Mv (cT ?_)))));refine As ?_;refine AF (ι:=Nat) (λj=>[(1,.bool q),(2,.pointer (some ⟨b1,0,none⟩)),(4,.pointer (some ⟨b8,0,none⟩)),(5,.pointer (some ⟨bm,0,none⟩)),(21,.slice a l.length c),(22,.int .i64 l.length),(23,.int .i64 j)])
       (λj w'=>j<=l.length/\ArrS ndShape (b1+4) w'.heap.size w' g (FT (C7 q k) l j)/\Blk w' bm [.int .u8 k,.int .i64 n,str s,.slice (some ⟨g,0,none⟩) l.length l.length]/\Blk w' b1 [.int .u8 k,.int .i64 n,str s,.slice a l.length c]/\Blk w' b8 [.int .u8 0,.int .i64 0,str [],.slice none 0 0]/\rowSits (· < w.heap.size) w' l a/\Ext w w'/\b1+4<=w'.heap.size)
       (λj=>l.length-j) 0 sB ⟨gI _,hA.wide Ab,hbm,d,f,hs,X,Ab⟩ ?_
      clear hA hbm d f hs X hz e0;rintro j w2 ⟨hj,hA,hbm,d,f,hs,X,hz⟩;by_cases hlt:j<l.length
      . obtain ⟨kb,ko,rfl,kS,hkid⟩:=BJ hs (by intro e;subst e;simp at hlt);obtain ⟨xa,xc,rx,sx⟩:=hkid j l[j] (fY hlt);have HX:=fZ (HC.out l[j] (gK hlt));have hxz:=CA (gK hlt);have hnext:=RG (C7 q k) l j hlt;have hdl:=RF (C7 q k) l j hj;clear hkid HC;by_cases hk:k=57\/(l[j]).kind=57
        . have HX2:=fZ (HX.out hk);have hfx:C7 q k l[j]=(l[j]).inv q:=by unfold C7;rw [AT hk]
          rw [hfx] at hnext;clear HX hfx;generalize l[j]=x at *
          focus
           refine eK ?_;refine eA [_,_,_,_] ?_;intro ey ez cg ch e1 e2;revert hA hbm f X d hs rx sx;refine eE ch ?_;intro hA hbm f X d hs rx sx;refine C1 Pa (eS [_,_,_,_] cg ?_);intro aa p bg dd;revert hA hbm f X d hs rx sx;refine eF bg ?_;intro hA hbm f X d hs rx sx;refine eK ?_;refine B4 rfl rfl rfl (λbh=>?_) (λbh=>?_);refine eK ?_;refine Ap (λwz=>Ext aa wz) 6 (.pure 0 (.pure 1 (.pure 2 (.pure 3 (.pure 4 (.fork 5 .tail .none)))))) mixed AR (Ae (Aa (Aa (Ae (Aa Ag))))) ?_;intro bi ad _;have u:(λwz=>Ext aa wz) bi:=ad;simp only at u;have G:=p;have I:=hA;have i:=hbm;have v:=f;have A:=d;have T:=hs;have ae:=rx;have J:=sx;revert p hA hbm f X d hs rx sx;refine eY ad ?_;intro de p hA hbm f X d hs rx sx;refine ⟨u,?_⟩;refine eT ?_;refine Tq rfl (xL [_,_,_,_] (λwz hz=>(my G hz))) (Tq rfl Mv ?_);refine tC rfl rfl (HX2.out _ _ _ _ Af) ?_;rintro _ df ⟨dg,dh,⟨⟩,af,bj⟩;revert u p hA hbm f X d hs rx sx;refine eY bj ?_;intro di u p hA hbm f X d hs rx sx;refine ⟨u,?_⟩;refine Aq rfl (C1 Pi (A9 (FJ (sh:=ndShape) (j:=j) (z:=x.inv q) (us:=[_,_,_,_]) Ac rfl rfl rfl rfl rfl rfl Af Ab Ab Ab ⟨_,_,rfl,Nd.sits.wide Af (λb h=>by omega)⟩) (BK ?_)));rintro _ dj ⟨dk,ag,dl⟩;revert af p;refine eZ ag ?_;intro dm af p;clear hA;revert hbm f X d hs rx sx;refine eF ag ?_;intro hbm f X d hs rx sx;refine Al (Ah (Ai (Ak (C1 V7 (C1 Mv (Al ?_))))));rotate_left;refine eK ?_;refine Ap (λwz=>Ext aa wz) 6 (.pure 0 (.pure 1 (.pure 2 (.pure 3 (.pure 4 (.fork 5 .tail .none)))))) mixed AR (Ae (Aa (Aa (Ae (Aa Ag))))) ?_;intro bk ah _;have B:(λwz=>Ext aa wz) bk:=ah;simp only at B;have G:=p;have I:=hA;have i:=hbm;have v:=f;have A:=d;have T:=hs;have ae:=rx;have J:=sx;revert p hA hbm f X d hs rx sx;refine eY ah ?_;intro dn p hA hbm f X d hs rx sx;refine ⟨B,?_⟩;refine eT ?_;refine Tq rfl (xL [_,_,_,_] (λwz hz=>(my G hz))) (Tq rfl Mv ?_);refine tC rfl rfl (HX2.out _ _ _ _ Af) ?_
           rintro _ dp ⟨dq,dr,⟨⟩,ai,bl⟩;revert B p hA hbm f X d hs rx sx;refine eY bl ?_;intro ds B p hA hbm f X d hs rx sx;refine ⟨B,?_⟩;refine Aq rfl (C1 Pi (A9 (FJ (sh:=ndShape) (j:=j) (z:=x.inv q) (us:=[_,_,_,_]) Ac rfl rfl rfl rfl rfl rfl Af Ab Ab Ab ⟨_,_,rfl,Nd.sits.wide Af (λb h=>by omega)⟩) (BK ?_)));rintro _ dt ⟨du,aj,dv⟩;revert ai p;refine eZ aj ?_;intro dw ai p;clear hA;revert hbm f X d hs rx sx;refine eF aj ?_;intro hbm f X d hs rx sx;refine Al (Ah (Ai (Ak (C1 V7 (C1 Mv (Al ?_))))));rotate_left
          all_goals exact Av (j+1) sC ⟨Ab,by rw [<-hnext];exact ArrS.wide Af Ab,hbm,d,f,hs,X,Ab⟩ Ab
        . have hfx:C7 q k l[j]=l[j]:=by unfold C7;rw [AC hk]
          rw [hfx] at hnext;clear HX hfx;generalize l[j]=x at *;have e3:¬k=57:=λe=>hk (gA e)
          have e4:¬x.kind=57:=λe=>hk (gB e)
          have HX2:=fZ (Jl x Ab);refine eK ?_;refine eA [_,_,_,_] ?_;intro e5 e6 ci cj e7 e8;revert hA hbm f X d hs rx sx;refine eE cj ?_;intro hA hbm f X d hs rx sx;refine C1 Pa (eS [_,_,_,_] ci ?_);intro bn E bo dx;revert hA hbm f X d hs rx sx;refine eF bo ?_;intro hA hbm f X d hs rx sx;refine eK ?_;refine Ap (λwz=>Ext bn wz) 5 (.pure 0 (.pure 1 (.pure 2 (.pure 3 (.fork 4 .tail .none))))) mixed AR (Ae (Aa (Aa (Ae (Aa Ag))))) ?_;intro bp ak _;have F:(λwz=>Ext bn wz) bp:=ak;simp only at F;have ab:=E;have I:=hA;have i:=hbm;have v:=f;have A:=d;have T:=hs;have ae:=rx;have J:=sx;revert E hA hbm f X d hs rx sx;refine eY ak ?_;intro dy E hA hbm f X d hs rx sx;refine ⟨F,?_⟩;refine eT ?_;refine Tq rfl (xL [_,_,_,_] (λwz hz=>(my ab hz))) ?_;refine tC rfl rfl (HX2.out _ _ _ _ Af) ?_;rintro _ dz ⟨d0,d1,⟨⟩,al,bq⟩;revert F E hA hbm f X d hs rx sx;refine eY bq ?_;intro d2 F E hA hbm f X d hs rx sx;refine ⟨F,?_⟩;refine Aq rfl (C1 Pi (A9 (FJ (sh:=ndShape) (j:=j) (z:=x) (us:=[_,_,_,_]) Ac rfl rfl rfl rfl rfl rfl Af Ab Ab Ab ⟨_,_,rfl,Nd.sits.wide Af (λb h=>by omega)⟩) (BK ?_)));rintro _ d3 ⟨d4,am,d5⟩;revert al E;refine eZ am ?_;intro d6 al E;clear hA;revert hbm f X d hs rx sx;refine eF am ?_;intro hbm f X d hs rx sx;refine Al (Ah (Ai (Ak (C1 V7 (C1 Mv (Al ?_))))))
          all_goals exact Av (j+1) sB ⟨Ab,by rw [<-hnext];exact ArrS.wide Af Ab,hbm,d,f,hs,X,Ab⟩ Ab
      . obtain rfl:j=l.length:=by omega
        rw [RH] at hA;refine cS (C1 V3 (cT (Aj (Dd (BF (Ay (Ay (AS ?_))))))));exact BC () sB ⟨hA,hbm,d,f,X,hz⟩
    . clear hA hbm d f hs X hz e0 HC;rintro _ w3 ⟨hA,hbm,d,f,X,hz⟩;have hxl:(l.map (C7 q k)).length=l.length:=by simp
      by_cases k57:k=57
      . subst k57;have ht:(Nd.mk 57 n s l).inv q = .mk 57 n s (Cd q l).reverse:=by
         conv=>lhs;unfold Nd.inv
         rw [AT rfl]
        rw [ht,RE];generalize l.map (C7 q 57)=xs at *;rw [<-hxl] at hbm;refine eK ?_;refine C1 (AL rfl rfl (gG _ Ab)) ?_;refine eK ?_;refine cC rfl (Uk (b1+4) _ _ _ _ _ Af (gA Ab) Ab) ?_;rintro _ e9 ⟨⟨⟩,ax,br⟩;revert f X d hbm;refine eZ br ?_;intro fa f X d hbm;clear hA br;refine eK ?_;refine eS [_,_,_,_] f ?_;intro fb ck cl fc;revert ax X d hbm;refine eF cl ?_;intro ax X d hbm;refine eK ?_;refine xC ck ?_;exact DF AQ (ax.wide Ab) Ab Ab X
      rw [PR q k57];by_cases k5:k=52\/k=53\/k=54
      . rw [AT k5];have hne:=v2 k5;generalize l.map (C7 q k)=xs at *;have hpos:0<xs.length:=by rw [hxl];exact List.length_pos_iff.2 hne
        obtain ⟨x,hx⟩:∃x,xs[0]? = some x:=⟨_,fY hpos⟩;obtain ⟨y,hy⟩:∃y,xs[xs.length-1]? = some y:=⟨_,fY Ab⟩;obtain ⟨_,r1,xa,xc,rfl,sx⟩:=hA.row hx;obtain ⟨_,r2,ya,yc,rfl,sy⟩:=hA.row hy;have em:((xs.length:Int)-1).toNat=xs.length-1:=by omega
        have hsw:F9 xs=(xs.set 0 y).set ((xs.length:Int)-1).toNat x:=by
         unfold F9;rw [em,gY,gY,hx,hy];rfl
        rw [hsw];have hsl:((xs.set 0 y).set ((xs.length:Int)-1).toNat x).length=xs.length:=by simp
        replace r1:Row w3 ⟨g,0+0*4,none⟩ (x.cells xa xc):=r1;replace r2:Row w3 ⟨g,0+((xs.length:Int)-1).toNat*4,none⟩ (y.cells ya yc):=by rw [em];exact r2
        rw [<-hxl] at hbm;clear hx hy hsw;rcases k5 with rfl|rfl|rfl
        . focus
           refine eK ?_;refine C1 (AL rfl rfl (gG _ Ab)) ?_;refine eK ?_;refine EK (λwz=>Ext w3 wz) (λwz=>Fr (λx=>x=g) w3 wz) [2,3,4,15,16,17] [2,3,4] 15 16 (.free 2 (.free 3 (.free 4 (.pure 0 (.pure 1 (.pure 5 (.pure 6 (.pure 7 (.pure 8 (.pure 9 (.pure 10 (.pure 11 (.pure 12 (.pure 13 (.pure 14 (.put 15 (.tail 16))))))))))))))))) (λ_ h=>mt h) mixed AR (Ae (Aa Ag)) ?_;intro bs ay _;have bt:(λwz=>Ext w3 wz) bs:=ay;simp only at bt;have W:(λwz=>Fr (λx=>x=g) w3 wz) bs:=mt ay;simp only at W;have v:=f;have I:=hA;have J:=sx;have an:=sy;have L:=r1;have M:=r2;have A:=d;have i:=hbm;revert f X hA sx sy r1 r2 d hbm;refine eY ay ?_;intro fd f X hA sx sy r1 r2 d hbm;refine Bl Af rfl (A1 Ac rfl rfl rfl) rfl (Bl Af rfl (Ar Ac rfl rfl rfl (λwz hz=>mC (mu i hz Ab) rfl)) rfl (Bl Af rfl (Aw rfl) rfl (Ao Af rfl (A1 Ac rfl rfl rfl) rfl (Ao Af rfl (Ar Ac rfl rfl rfl (λwz hz=>mC (my i hz) rfl)) rfl (Ao Af rfl (A1 Ac rfl rfl rfl) rfl (Ao Af rfl (Ar Ac rfl rfl rfl (λwz hz=>mC (my i hz) rfl)) rfl (Ao Af rfl (Aw rfl) rfl (Ao Af rfl (AK Ac rfl rfl rfl rfl Ab Ab) rfl (Ao Af rfl (Bt Ac rfl rfl rfl (λwz hz=>(mw M hz)) rfl) rfl (Ao Af rfl (A1 Ac rfl rfl rfl) rfl (Ao Af rfl (Ar Ac rfl rfl rfl (λwz hz=>mC (my i hz) rfl)) rfl ?_)))))))))))
           refine Ao Af rfl (AK Ac rfl rfl rfl rfl Ab Ab) rfl (Ao Af rfl (Dq [_,_,_,_] Ac rfl rfl rfl (λwz hz=>(mw L hz)) rfl rfl) rfl (Ao Af rfl (AK Ac rfl rfl rfl rfl Ab Ab) rfl (Du rfl (B8 (sh:=ndShape) (j:=0) (z:=y) (us:=[_,_,_,_]) Ac rfl rfl rfl rfl rfl rfl Af Ab (gA Ab) ⟨_,_,rfl,Af⟩) (BK ?_))));rintro _ fe ⟨ff,az,fg⟩;revert W f X;refine eZ az ?_;intro d7 W f X;clear hA;revert sx sy;refine eF az ?_;intro sx sy;revert d hbm;refine eF az ?_;intro d hbm;refine ⟨Af,?_⟩;refine Dt rfl (C1 Pi (A9 (B8 (sh:=ndShape) (j:=((xs.length:Int)-1).toNat) (z:=x) (us:=[_,_,_,_]) Ac rfl rfl rfl rfl rfl rfl Af (by rw [kj];omega) (gA Ab) ⟨_,_,rfl,Af⟩) (BK ?_)));rintro _ d8 ⟨ao,ap,d9⟩;have ea:=ap.size;revert f X sx sy d hbm;refine eF ap ?_;intro f X sx sy d hbm;refine eK ?_;refine eS [_,_,_,_] f ?_;intro eb bu bv ec;revert ao X sx sy d hbm;refine eF bv ?_;intro ao X sx sy d hbm;refine eK ?_;refine xC bu ?_;rotate_left
          exact DF hsl (ArrS.wide Af Ab) Ab Ab X
        . focus
           refine eK ?_;refine C1 (AL rfl rfl (gG _ Ab)) ?_;refine eK ?_;refine EK (λwz=>Ext w3 wz) (λwz=>Fr (λx=>x=g) w3 wz) [2,3,4,15,16,17] [2,3,4] 15 16 (.free 2 (.free 3 (.free 4 (.pure 0 (.pure 1 (.pure 5 (.pure 6 (.pure 7 (.pure 8 (.pure 9 (.pure 10 (.pure 11 (.pure 12 (.pure 13 (.pure 14 (.put 15 (.tail 16))))))))))))))))) (λ_ h=>mt h) mixed AR (Ae (Aa Ag)) ?_;intro bw a0 _;have bx:(λwz=>Ext w3 wz) bw:=a0;simp only at bx;have Y:(λwz=>Fr (λx=>x=g) w3 wz) bw:=mt a0;simp only at Y;have v:=f;have I:=hA;have J:=sx;have an:=sy;have L:=r1;have M:=r2;have A:=d;have i:=hbm;revert f X hA sx sy r1 r2 d hbm;refine eY a0 ?_;intro fh f X hA sx sy r1 r2 d hbm;refine Bl Af rfl (A1 Ac rfl rfl rfl) rfl (Bl Af rfl (Ar Ac rfl rfl rfl (λwz hz=>mC (mu i hz Ab) rfl)) rfl (Bl Af rfl (Aw rfl) rfl (Ao Af rfl (A1 Ac rfl rfl rfl) rfl (Ao Af rfl (Ar Ac rfl rfl rfl (λwz hz=>mC (my i hz) rfl)) rfl (Ao Af rfl (A1 Ac rfl rfl rfl) rfl (Ao Af rfl (Ar Ac rfl rfl rfl (λwz hz=>mC (my i hz) rfl)) rfl (Ao Af rfl (Aw rfl) rfl (Ao Af rfl (AK Ac rfl rfl rfl rfl Ab Ab) rfl (Ao Af rfl (Bt Ac rfl rfl rfl (λwz hz=>(mw M hz)) rfl) rfl (Ao Af rfl (A1 Ac rfl rfl rfl) rfl (Ao Af rfl (Ar Ac rfl rfl rfl (λwz hz=>mC (my i hz) rfl)) rfl ?_)))))))))))
           refine Ao Af rfl (AK Ac rfl rfl rfl rfl Ab Ab) rfl (Ao Af rfl (Dq [_,_,_,_] Ac rfl rfl rfl (λwz hz=>(mw L hz)) rfl rfl) rfl (Ao Af rfl (AK Ac rfl rfl rfl rfl Ab Ab) rfl (Du rfl (B8 (sh:=ndShape) (j:=0) (z:=y) (us:=[_,_,_,_]) Ac rfl rfl rfl rfl rfl rfl Af Ab (gA Ab) ⟨_,_,rfl,Af⟩) (BK ?_))));rintro _ fi ⟨fj,a1,fk⟩;revert Y f X;refine eZ a1 ?_;intro ed Y f X;clear hA;revert sx sy;refine eF a1 ?_;intro sx sy;revert d hbm;refine eF a1 ?_;intro d hbm;refine ⟨Af,?_⟩;refine Dt rfl (C1 Pi (A9 (B8 (sh:=ndShape) (j:=((xs.length:Int)-1).toNat) (z:=x) (us:=[_,_,_,_]) Ac rfl rfl rfl rfl rfl rfl Af (by rw [kj];omega) (gA Ab) ⟨_,_,rfl,Af⟩) (BK ?_)));rintro _ ee ⟨aq,ar,ef⟩;have eg:=ar.size;revert f X sx sy d hbm;refine eF ar ?_;intro f X sx sy d hbm;refine eK ?_;refine eS [_,_,_,_] f ?_;intro eh bz b0 ei;revert aq X sx sy d hbm;refine eF b0 ?_;intro aq X sx sy d hbm;refine eK ?_;refine xC bz ?_;rotate_left
          exact DF hsl (ArrS.wide Af Ab) Ab Ab X
        . focus
           refine eK ?_;refine C1 (AL rfl rfl (gG _ Ab)) ?_;refine eK ?_;refine EK (λwz=>Ext w3 wz) (λwz=>Fr (λx=>x=g) w3 wz) [2,3,4,15,16,17] [2,3,4] 15 16 (.free 2 (.free 3 (.free 4 (.pure 0 (.pure 1 (.pure 5 (.pure 6 (.pure 7 (.pure 8 (.pure 9 (.pure 10 (.pure 11 (.pure 12 (.pure 13 (.pure 14 (.put 15 (.tail 16))))))))))))))))) (λ_ h=>mt h) mixed AR (Ae (Aa Ag)) ?_;intro b2 a2 _;have b3:(λwz=>Ext w3 wz) b2:=a2;simp only at b3;have Z:(λwz=>Fr (λx=>x=g) w3 wz) b2:=mt a2;simp only at Z;have v:=f;have I:=hA;have J:=sx;have an:=sy;have L:=r1;have M:=r2;have A:=d;have i:=hbm;revert f X hA sx sy r1 r2 d hbm;refine eY a2 ?_;intro fl f X hA sx sy r1 r2 d hbm;refine Bl Af rfl (A1 Ac rfl rfl rfl) rfl (Bl Af rfl (Ar Ac rfl rfl rfl (λwz hz=>mC (mu i hz Ab) rfl)) rfl (Bl Af rfl (Aw rfl) rfl (Ao Af rfl (A1 Ac rfl rfl rfl) rfl (Ao Af rfl (Ar Ac rfl rfl rfl (λwz hz=>mC (my i hz) rfl)) rfl (Ao Af rfl (A1 Ac rfl rfl rfl) rfl (Ao Af rfl (Ar Ac rfl rfl rfl (λwz hz=>mC (my i hz) rfl)) rfl (Ao Af rfl (Aw rfl) rfl (Ao Af rfl (AK Ac rfl rfl rfl rfl Ab Ab) rfl (Ao Af rfl (Bt Ac rfl rfl rfl (λwz hz=>(mw M hz)) rfl) rfl (Ao Af rfl (A1 Ac rfl rfl rfl) rfl (Ao Af rfl (Ar Ac rfl rfl rfl (λwz hz=>mC (my i hz) rfl)) rfl ?_)))))))))))
           refine Ao Af rfl (AK Ac rfl rfl rfl rfl Ab Ab) rfl (Ao Af rfl (Dq [_,_,_,_] Ac rfl rfl rfl (λwz hz=>(mw L hz)) rfl rfl) rfl (Ao Af rfl (AK Ac rfl rfl rfl rfl Ab Ab) rfl (Du rfl (B8 (sh:=ndShape) (j:=0) (z:=y) (us:=[_,_,_,_]) Ac rfl rfl rfl rfl rfl rfl Af Ab (gA Ab) ⟨_,_,rfl,Af⟩) (BK ?_))));rintro _ fm ⟨fn,a3,fo⟩;revert Z f X;refine eZ a3 ?_;intro ej Z f X;clear hA;revert sx sy;refine eF a3 ?_;intro sx sy;revert d hbm;refine eF a3 ?_;intro d hbm;refine ⟨Af,?_⟩;refine Dt rfl (C1 Pi (A9 (B8 (sh:=ndShape) (j:=((xs.length:Int)-1).toNat) (z:=x) (us:=[_,_,_,_]) Ac rfl rfl rfl rfl rfl rfl Af (by rw [kj];omega) (gA Ab) ⟨_,_,rfl,Af⟩) (BK ?_)));rintro _ ek ⟨au,av,el⟩;have en:=av.size;revert f X sx sy d hbm;refine eF av ?_;intro f X sx sy d hbm;refine eK ?_;refine eS [_,_,_,_] f ?_;intro eo b4 b5 ep;revert au X sx sy d hbm;refine eF b5 ?_;intro au X sx sy d hbm;refine eK ?_;refine xC b4 ?_;rotate_left
          exact DF hsl (ArrS.wide Af Ab) Ab Ab X
      . rw [AC k5];generalize l.map (C7 q k)=xs at *;have fp:¬k=52:=λe=>k5 (gA e)
        have fq:¬k=53:=λe=>k5 (gB (gA e))
        have fs:¬k=54:=λe=>k5 (gB (gB e))
        by_cases k6:k=50\/k=51
        . rw [AT k6];cases q
          . simp only [iS,if_false];rcases k6 with rfl|rfl
            . refine eK ?_;refine C1 (AL rfl rfl (gG _ Ab)) ?_;refine eK ?_;refine cC rfl (G8 _ _ Ab Ab) ?_;rintro _ ft ⟨⟨⟩,rfl⟩;refine C1 Pg (eV [_] [_,_,_,_] hbm ?_);intro fu b6 cm fv;clear hbm;revert f X hA d;refine eF cm ?_;intro f X hA d;refine eK ?_;refine eS [_,_,_,_] f ?_;intro fw b7 cn eq;revert b6 X hA d;refine eF cn ?_;intro b6 X hA d;refine eK ?_;refine xC b7 ?_;exact DF hxl (ArrS.wide Af Ab) Ab Ab X
            . refine eK ?_;refine C1 (AL rfl rfl (gG _ Ab)) ?_;refine eK ?_;refine cC rfl (G8 _ _ Ab Ab) ?_;rintro _ fx ⟨⟨⟩,rfl⟩;refine C1 Pg (eV [_] [_,_,_,_] hbm ?_);intro fy b9 co fz;clear hbm;revert f X hA d;refine eF co ?_;intro f X hA d;refine eK ?_;refine eS [_,_,_,_] f ?_;intro f0 ca cp er;revert b9 X hA d;refine eF cp ?_;intro b9 X hA d;refine eK ?_;refine xC ca ?_;exact DF hxl (ArrS.wide Af Ab) Ab Ab X
          . simp only [if_true];rcases k6 with rfl|rfl
            . refine eK ?_;refine C1 (AL rfl rfl (gG _ Ab)) ?_;refine eK ?_;refine eS [_,_,_,_] f ?_;intro f1 cq cr f2;revert X hA hbm d;refine eF cr ?_;intro X hA hbm d;refine eK ?_;refine xC cq ?_;exact DF hxl (ArrS.wide Af Ab) Ab Ab X
            . refine eK ?_;refine C1 (AL rfl rfl (gG _ Ab)) ?_;refine eK ?_;refine eS [_,_,_,_] f ?_;intro f3 cs ct f4;revert X hA hbm d;refine eF ct ?_;intro X hA hbm d;refine eK ?_;refine xC cs ?_;exact DF hxl (ArrS.wide Af Ab) Ab Ab X
        . rw [AC k6];have f5:¬k=50:=λe=>k6 (gA e)
          have f6:¬k=51:=λe=>k6 (gB e)
          refine eK ?_;refine C1 (AL rfl rfl (gG _ Ab)) ?_;refine eK ?_;refine cC rfl (G8 _ _ Ab Ab) ?_;rintro _ f7 ⟨⟨⟩,rfl⟩;refine C1 Pg (eV [_] [_,_,_,_] hbm ?_);intro f8 cb cu f9;clear hbm;revert d f X hA;refine eF cu ?_;intro d f X hA;refine eK ?_;refine eS [_,_,_,_] f ?_;intro ga cc cv es;revert cb d X hA;refine eF cv ?_;intro cb d X hA;refine eK ?_;refine xC cc ?_;exact DF hxl (ArrS.wide Af Ab) Ab Ab X
end Bk
