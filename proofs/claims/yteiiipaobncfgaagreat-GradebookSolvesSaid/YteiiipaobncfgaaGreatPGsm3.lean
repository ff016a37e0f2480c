/- Texts that the proofs of GradebookSolves need. No condition. (Part 3 of 7.) -/
import Derived.Test.YteiiipaobncfgaaGreatPGsm2
set_option linter.unusedSimpArgs false
set_option linter.unusedVariables false
set_option linter.defProp false
set_option maxRecDepth 100000
set_option maxHeartbeats 4000000
open Go.Proofs.Tryz
open Or renaming inl->gP,inr->gQ
open Go.Result renaming andThen->gY
open Except renaming bind->ir
open Go renaming Calls->iv
open Go.Value renaming slice->iD,int->iW,ownBlock->jB
open Nat renaming blt->iE,ble->jr,beq->jv
open Go.Region renaming ready->iH,binds->jh
open List renaming replicate->iL,range->jj
open Go.Builtin renaming zeroCells->i9
open Go.IntKind renaming wrap->jo
open Array renaming replicate->jt
open Go.Oper renaming wp->jy
open Go.Addr renaming add->jA
open Go.Sem renaming run->jP
namespace Bk
abbrev mM:=@OwnI.fr
abbrev mO:=@Keeps.of_fr
abbrev mP:=@OwnQ.nil
abbrev mS:=@OwnQ.fr
abbrev mT:=@SV.sits.wide
abbrev mW:=@Keeps.of_ext
abbrev mX:=@SV.sits.fr
abbrev mZ:=@IntsAt.at
end Bk
open Bk.Nd renaming size->mg,kind->mz,kids->mL
open Bk.Value renaming one->mq
namespace Bk
open Go Go.RowKit Go.Proofs
attribute [local irreducible] Go.Calls
variable {n G:Nat} {w w':wD} {l:List PD} {S:nP} {a:oA} {v:Value} {s:lB}
def LJ:List Nd->List Nd->Option lB
 | _,[]=>none
 | acc,t::r=>if acc.any (λu=>decide (u.name=t.name))=true then some t.name else LJ (acc++[t]) r
def EM:Nd->lB×Int
 | .mk k _ s l=>
  if k=56 then ((l.getD 0 BW).name,9)
  else if 40<=k/\k<=42 then (if ((l.getD 0 BW).idx (l.getD 0 BW).name||(l.getD 1 BW).ment (l.getD 0 BW).name)=true then ((l.getD 0 BW).name,8) else ([],0))
  else if k=43 then Eo (Ds l [(l.getD 0 BW).name,(l.getD 1 BW).name])
  else if 44<=k/\k<=45 then Eo (Ds l [(l.getD 0 BW).name,s])
  else if 46<=k/\k<=49 then Eo (Ds l [(l.getD 0 BW).name])
  else if 50<=k/\k<=51 then Eo (LJ [] l)
  else if k=52 then (if ((l.getD 3 BW).const.2 && !(l.getD 0 BW).const.2)=true then ([],10) else ([],0))
  else if k=53 then (if (l.getD 0 BW).const.2=true then ([],10) else ([],0))
  else ([],0)
def Fl (k n:Int) (s:lB) (l:List Nd):EM (.mk k n s l)=if k=56 then ((l.getD 0 BW).name,9)
 else if 40<=k/\k<=42 then (if ((l.getD 0 BW).idx (l.getD 0 BW).name||(l.getD 1 BW).ment (l.getD 0 BW).name)=true then ((l.getD 0 BW).name,8) else ([],0))
 else if k=43 then Eo (Ds l [(l.getD 0 BW).name,(l.getD 1 BW).name])
 else if 44<=k/\k<=45 then Eo (Ds l [(l.getD 0 BW).name,s])
 else if 46<=k/\k<=49 then Eo (Ds l [(l.getD 0 BW).name])
 else if 50<=k/\k<=51 then Eo (LJ [] l)
 else if k=52 then (if ((l.getD 3 BW).const.2 && !(l.getD 0 BW).const.2)=true then ([],10) else ([],0))
 else if k=53 then (if (l.getD 0 BW).const.2=true then ([],10) else ([],0))
 else ([],0):=rfl
def J7 {S:nP} {w:wD}:∀(l:List Nd) (i:Nat) (a:oA),rowSits S w l a->rowSits S w (l.take i) a
 | _,0,_,_=>by simp [rowSits]
 | [],_+1,_,_=>by simp [rowSits]
 | t::r,i+1,a,h=>by
  simp only [ja,rowSits] at h ⊢;obtain ⟨b,o,G,c,rfl,M,N,O,U,V,X,Y⟩:=h;exact ⟨b,o,G,c,rfl,M,N,O,U,V,X,J7 r i _ Y⟩
def Nd.good (t:Nd):Prop:=t.isStmt=true\/t.isBlock=true\/t.isExpr=true
def Vh {t:Nd} (h:t.good) (M:40<=t.kind) (G:t.kind<=56):t.isStmt=true:=by
 rcases h with h|h|h
 . exact h
 . obtain ⟨e,-⟩:=D5 h;rw [e] at G;simp only [mz] at G;omega
 . have:=Gn h;omega
def F5 {t:Nd} (h:t.isPlace=true):t.okIdx:=by
 intro G e;have M:=Be h;obtain ⟨k,n,s,l⟩:=t;simp only [mz,mL] at G e;subst G e;rw [Nd.isExpr.eq_def] at M;simp at M
def QS {k n:Int} {l:List Nd} (h:(Nd.mk k n s l).isStmt=true) (G:k=56\/(40<=k/\k<=42)):∃x y,l=[x,y]/\x.isPlace=true/\y.isExpr=true:=by
 cases B3 h<;>first|omega|exact ⟨_,_,rfl,Ae,Ae⟩
def Vi {n:Int} {l:List Nd} (h:(Nd.mk 43 n s l).isStmt=true):∃x y,l=[x,y]/\x.isPlace=true/\y.isPlace=true:=by
 cases B3 h<;>first|omega|exact ⟨_,_,rfl,Ae,Ae⟩
def T8 {k n:Int} {l:List Nd} (h:(Nd.mk k n s l).isStmt=true) (G:44<=k/\k<=49):∃x,l=[x]/\x.isPlace=true:=by
 cases B3 h<;>first|omega|exact ⟨_,rfl,Ae⟩
def Lm {k n:Int} {l:List Nd} (h:(Nd.mk k n s l).isStmt=true) (G:k=52\/k=53):∃x y z u,l=[x,y,z,u]/\x.isExpr=true/\u.isExpr=true:=by
 cases B3 h<;>first|omega|exact ⟨_,_,_,_,rfl,Ae,Ae⟩
set_option maxHeartbeats 8000000 in
def W5 (t:Nd) (hz:t.size<=1000000) (hf:t.wf) (hg:t.good) (S:Nat->Prop) (a:Option Addr) (c:Nat) (w:World) (O:t.sits S w a) (au:t.kids.length<=c):Calls prog 149 #[t.val a c] w λe w'=>e = .returned (.tuple #[str (EM t).1,.int .i64 (EM t).2])/\Ext w w':=by
 have bl:=Vh hg;obtain ⟨k,n,s,l⟩:=t;replace O:=Ci _ _ (EJ O);have cj:=Cz l;have HZ:=gO (λx (hx:x∈l)=>CM hx)
 have dq:AV l<=1000000:=by simp only [mg] at hz;omega
 have HF:=gO (λx (hx:x∈l)=>BB (by simp only [Nd.wf] at hf;exact hf.2.2.2.2.2.2) x hx);have HT:=gO (λh1 h2=>bl h1 h2);simp only [mz] at HT;simp only [mL] at au;have X:=Ne w
 show Calls prog 149 #[.agg #[.int .u8 k,.int .i64 n,str s,.slice a l.length c]] w _
 refine Ad func149 ntmps149 rfl rfl ?_
 focus
  refine cS (eB [_,_,_,_] ?_);intro b1 w2 M x5 p6 z7;revert O X;refine eE x5 ?_;intro O X;refine C1 Pa (C1 Pa (cT (Aj (cS (C1 Pg (C1 (Pl M) (cT (Au (cS (C1 V1 (C1 Pa (cT (Ay rfl (λc8=>?_) (λc8=>?_))))))))))))));rotate_left;refine Aj ?_;rotate_left
 . obtain ⟨x,y,rfl,hx,hy⟩:=QS (HT.out Ab Ab) (gP Ab);obtain ⟨kb,ko,rfl,kS,N⟩:=BG O AK;obtain ⟨xa,xc,rx,sx⟩:=N 0 x rfl
   have he:EM (.mk k n s [x,y])=(x.name,9):=by rw [Fl,AH Ab];rfl
   rw [he];replace M:Blk w2 b1 [.int .u8 k,.int .i64 n,str s,.slice (some ⟨kb,ko,none⟩) 2 c]:=M
   refine cS (C1 Pf (C1 (Pl M) (C1 Pi (C1 Pf (C1 (Pw rx) (C1 Pa (C1 Pa (cT (AR (AJ (As (Bc rfl rfl rfl ?_))))))))))))
   exact ⟨rfl,X⟩
 refine DD (ι:=Unit) (λ_=>[(1,pt b1),(10,.int .u8 k),(18,.bool (decide (40<=k/\k<=42)))]) (λ_ w'=>w'=w2) ?_ ?_
 . focus
    refine cS (C1 V1 (C1 Pa (cT (Ay rfl (λbm=>?_) (λbm=>?_)))));refine Ao ?_;rotate_left;refine cS (C1 V1 (C1 Pa (cT (Ay rfl (λbn=>?_) (λbn=>?_)))));refine Ao ?_;rotate_left;refine Al (C1 V1 (C1 Pa (Ak ?_)));rotate_left
   all_goals exact BY () (An rfl (An rfl (B4 rfl (congrArg Value.bool (decide_eq_decide.2 Ab)) BK))) rfl
 rintro-u1 h;subst h
 focus
  refine Ay rfl (λbo=>?_) (λbo=>?_);rotate_left;rotate_left
 . obtain ⟨x,y,rfl,hx,hy⟩:=QS (HT.out Ab Ab) (gQ Ab);obtain ⟨kb,ko,rfl,kS,N⟩:=BG O AK;obtain ⟨xa,xc,rx,sx⟩:=N 0 x rfl;obtain ⟨ya,yc,ry,sy⟩:=N 1 y rfl
   have he:EM (.mk k n s [x,y])=if (x.idx x.name||y.ment x.name)=true then (x.name,8) else ([],0):=by rw [Fl,At Ab,AH Ab];rfl
   have HI:=gO (Oe x (by have:=HZ.out x AK;omega) (F5 hx) x.name);have HM:=gO (Mx y (by have:=HZ.out y AK;omega) x.name);rw [he]
   generalize x.idx x.name=q at *
   generalize y.ment x.name=p at *
   replace M:Blk u1 b1 [.int .u8 k,.int .i64 n,str s,.slice (some ⟨kb,ko,none⟩) 2 c]:=M
   focus
    refine cS (C1 Pf (C1 (Pl M) (C1 Pi (C1 Pf (C1 (Pw rx) (C1 Pa (cN (C1 Pf (C1 (Pl M) (C1 Pi (BT [_,_,_,_] Ac rfl rfl rfl rx rfl rfl rfl (C1 Mv (cC rfl (HI.out _ _ _ _ Ae) ?_)))))))))))));rintro _ dr ⟨⟨⟩,bp⟩;revert X ry sy M;refine eE bp ?_;intro X ry sy M;refine C1 Mv (O2 rfl rfl rfl (λbq=>?_) (λbq=>?_));refine Bh rfl rfl rfl (NW Ae) rfl (Bh rfl rfl rfl (NW Ae) rfl (Bh rfl rfl rfl (NW Ae) rfl (Bh rfl rfl rfl (NW Ae) rfl (Bh rfl rfl rfl (NW Ae) rfl (Bh rfl rfl rfl (NW Ae) rfl (C1 (Co rfl rfl Ae) (cT (BO rfl (cS (C1 Mv (C1 Pa (C1 Pa (cT (AR (AJ (As (Bc rfl rfl rfl ?_)))))))))))))))));rotate_left;refine Bn rfl rfl rfl (NX Ae) (C1 Pf (Bn rfl rfl rfl (NX Ae) (C1 (Pl M) (Bn rfl rfl rfl (NX Ae) (C1 Pi (Bn rfl rfl rfl (NX Ae) (C1 (YN ry) (Bn rfl rfl rfl (NX Ae) (C1 Mv (Bn rfl rfl rfl (NX Ae) (cC rfl (HM.out _ _ _ _ Ae) ?_)))))))))));rintro _ ds ⟨⟨⟩,br⟩;replace X:=X.ext br;refine C1 (BR rfl rfl Ae) ?_
    refine cT (FR rfl (λbs=>?_) (λbs=>?_));refine cS (C1 Mv (C1 Pa (C1 Pa (cT (AR (AJ (As (Bc rfl rfl rfl ?_))))))));rotate_left;refine Ao (Ah (Ai (cS (C1 Pa (C1 Pa (cT (AR (Bc rfl rfl rfl ?_))))))));rotate_left
   all_goals exact ⟨by simp [*],X⟩
 focus
  refine cS (C1 V1 (C1 Pa (cT (Ay rfl (λbt=>?_) (λbt=>?_)))));rotate_left;refine Aj ?_;rotate_left
 . have hk:k=43:=by assumption
   subst hk;obtain ⟨x,y,rfl,hx,hy⟩:=Vi (HT.out Ab Ab);obtain ⟨kb,ko,rfl,kS,N⟩:=BG O AK;obtain ⟨xa,xc,rx,sx⟩:=N 0 x rfl;obtain ⟨ya,yc,ry,sy⟩:=N 1 y rfl
   have he:EM (.mk 43 n s [x,y])=Eo (Ds [x,y] [x.name,y.name]):=by rw [Fl,At Ab,At Ab,AH Ab];rfl
   have HA:=gO (PB [x,y] [x.name,y.name] Ab (λt ht=>by simp at ht;rcases ht with rfl|rfl<;>exact F5 Ae) AK);rw [he];replace M:Blk u1 b1 [.int .u8 43,.int .i64 n,str s,.slice (some ⟨kb,ko,none⟩) 2 c]:=M
   focus
    refine Aj (Aq (λwz=>Ext u1 wz) 11 (.pure 0 (.pure 1 (.pure 2 (.pure 3 (.pure 4 (.pure 5 (.pure 6 (.pure 7 (.fork 8 (.fork 9 (.fork 10 .tail .none) .none) (.fork 9 (.fork 8 (.fork 10 .tail .none) .none) .none)))))))))) mixed AU (Aa (Af (Aa Ag))) ?_);intro bu ar _;have G:(λwz=>Ext u1 wz) bu:=ar;simp only at G;have aa:=rx;have av:=ry;have U:=M;have dt:=ar.size;revert X O M;refine eE ar ?_;intro X O M;refine ⟨G,(Tq rfl Pf (Tq rfl (Db U) (Tq rfl Pi (Tq rfl (Dy [_,_,_,_] Ac rfl rfl rfl (λwz hz=>(l5 aa hz)) rfl rfl) (Tq rfl Pf (Tq rfl (Db U) (Tq rfl Pi (Tq rfl (BC Ac rfl rfl rfl (λwz hz=>(l5 av hz)) rfl) (AE rfl (Bb CJ rfl) rfl ?_ aFh ?krf5)))))))))⟩;rintro _ du ⟨dv,rfl,al⟩;have am:=al.blk;dsimp only at am;have aw:=al.ext;have ck:=al.pos;have cl:=al.size;revert G X O M;refine eE aw ?_;intro G X O M;refine ⟨G,(AE rfl (Bb CJ rfl) rfl ?_ aFh AC)⟩;rintro _ cm ⟨cn,rfl,ab⟩;have ac:=ab.blk;dsimp only at ac;have ax:=ab.ext;have co:=ab.pos;have cp:=ab.size;revert am G X O M;refine eE ax ?_;intro am G X O M;refine ⟨G,(Dm [_,_,_,_] [_,_,_,_] rfl Ac rfl rfl rfl rfl rfl rfl am rfl rfl ?_ AC)⟩
    intro cq af;have ag:=af.blk;have ay:=af.fr;have cr:=af.size;revert ac G X O M;refine eF ay ?_;intro ac G X O M;refine ⟨G,(Ar rfl (eS [_,_,_,_] ac ?_))⟩;intro ct az a0 cu;revert ag X O M;refine eF a0 ?_;intro ag X O M;refine cN (C1 Pf (C1 (Pl M) (C1 Pf (C1 (Pl ag) (C1 Pf (C1 (Pl az) (Ax (Dd [_,_] Ac CJ rfl rfl rfl rfl rfl rfl rfl rfl rfl) rfl ?_ aFh)))))));rintro _ cv ⟨cw,rfl,ao,cx⟩;have cy:=ao.blk;have a1:=ao.ext;revert X O;refine eE a1 ?_;intro X O;refine cC rfl (HA.out _ _ _ _ _ _ _ Ae (mi Ae)) ?_;rintro _ cz ⟨⟨⟩,a2⟩;replace X:=X.ext a2;refine C1 Px (C1 Px (C1 Pa (C1 Pa (cT (AR (AJ (As (Bc rfl rfl rfl ?_))))))));rotate_left;refine AE rfl (Bb CJ rfl) rfl ?_ aFh AC;rintro _ c0 ⟨c1,rfl,ad⟩;have Z:=ad.blk;dsimp only at Z;have a3:=ad.ext;have c2:=ad.pos;have c3:=ad.size;revert G X O M;refine eE a3 ?_;intro G X O M;refine ⟨G,(AE rfl (Bb CJ rfl) rfl ?_ aFh AC)⟩;rintro _ c4 ⟨c5,rfl,ae⟩;have ap:=ae.blk;dsimp only at ap;have a4:=ae.ext
    have c6:=ae.pos;have c7:=ae.size;revert Z G X O M;refine eE a4 ?_;intro Z G X O M;refine ⟨G,(Dm [_,_,_,_] [_,_,_,_] rfl Ac rfl rfl rfl rfl rfl rfl ap rfl rfl ?_ AC)⟩;intro c9 ah;have ai:=ah.blk;have a5:=ah.fr;have da:=ah.size;revert Z G X O M;refine eF a5 ?_;intro Z G X O M;refine ⟨G,(Ar rfl (eS [_,_,_,_] Z ?_))⟩;intro db a6 a7 dc;revert ai X O M;refine eF a7 ?_;intro ai X O M;refine cN (C1 Pf (C1 (Pl M) (C1 Pf (C1 (Pl ai) (C1 Pf (C1 (Pl a6) (Ax (Dd [_,_] Ac CJ rfl rfl rfl rfl rfl rfl rfl rfl rfl) rfl ?_ aFh)))))));rintro _ dd ⟨de,rfl,aq,df⟩;have dg:=aq.blk;have a8:=aq.ext;revert X O;refine eE a8 ?_;intro X O;refine cC rfl (HA.out _ _ _ _ _ _ _ Ae (mi Ae)) ?_;rintro _ dh ⟨⟨⟩,a9⟩;replace X:=X.ext a9;refine C1 Px (C1 Px (C1 Pa (C1 Pa (cT (AR (AJ (As (Bc rfl rfl rfl ?_))))))));rotate_left
   all_goals exact ⟨rfl,X⟩
 refine DD (ι:=Unit) (λ_=>[(1,pt b1),(10,.int .u8 k),(62,.bool (decide (44<=k/\k<=45)))]) (λ_ w'=>w'=u1) ?_ ?_
 . focus
    refine cS (C1 V1 (C1 Pa (cT (Ay rfl (λbv=>?_) (λbv=>?_)))));refine Ao ?_;rotate_left;refine Al (C1 V1 (C1 Pa (Ak ?_)));rotate_left
   all_goals exact BY () (An rfl (An rfl (B4 rfl (congrArg Value.bool (decide_eq_decide.2 Ab)) BK))) rfl
 rintro-u2 h;subst h
 focus
  refine Ay rfl (λbw=>?_) (λbw=>?_);rotate_left;refine Aj ?_;rotate_left
 . obtain ⟨x,rfl,hx⟩:=T8 (HT.out Ab Ab) Ab;obtain ⟨kb,ko,rfl,kS,N⟩:=BG O AK;obtain ⟨xa,xc,rx,sx⟩:=N 0 x rfl
   have he:EM (.mk k n s [x])=Eo (Ds [x] [x.name,s]):=by rw [Fl,At Ab,At Ab,At Ab,AH Ab];rfl
   have HA:=gO (PB [x] [x.name,s] Ab (λt ht=>by simp at ht;subst ht;exact F5 hx) AK);rw [he];replace M:Blk u2 b1 [.int .u8 k,.int .i64 n,str s,.slice (some ⟨kb,ko,none⟩) 1 c]:=M
   refine Aj (Aq (λwz=>Ext u2 wz) 13 (.pure 0 (.pure 1 (.pure 2 (.pure 3 (.pure 4 (.pure 5 (.pure 6 (.pure 7 (.pure 8 (.fork 9 (.fork 10 (.pure 11 (.pure 12 .tail)) .none) .none)))))))))) mixed AU (Aa (Af (Aa Ag))) ?_);intro bx ba _;have V:(λwz=>Ext u2 wz) bx:=ba;simp only at V;have aa:=rx;have U:=M;revert X O;refine eE ba ?_;intro X O;refine ⟨V,(Tq rfl Pf (Tq rfl (Db U) (Tq rfl Pf (Tq rfl (Db U) (Tq rfl Pi (Tq rfl Pf (Tq rfl (Dr aa) (Tq rfl Pf (Tq rfl (Db U) (AE rfl (Dd [_,_] Ac CJ rfl rfl rfl rfl rfl rfl rfl rfl rfl) rfl ?_ aFh AC))))))))))⟩;rintro _ dw ⟨dx,rfl,bb,dy⟩;have di:=bb.blk;have bc:=bb.ext;revert V X O;refine eE bc ?_;intro V X O;refine ⟨V,(AE rfl (AN AU rfl (HA.out _ _ _ _ _ _ _ Ae (mi Ae)) (λ_ _ h=>⟨_,h.1⟩)) rfl ?_ aFh AC)⟩;rintro _ dk ⟨⟨⟩,bd⟩;revert V X;refine eE bd ?_;intro V X;refine ⟨V,(Tq rfl Px (Tq rfl Px (Ar rfl (C1 Pa (C1 Pa (cT (AR (AJ (As (Bc rfl rfl rfl ?_))))))))))⟩
   all_goals exact ⟨rfl,X⟩
 refine DD (ι:=Unit) (λ_=>[(1,pt b1),(10,.int .u8 k),(78,.bool (decide (46<=k/\k<=49)))]) (λ_ w'=>w'=u2) ?_ ?_
 . focus
    refine cS (C1 V1 (C1 Pa (cT (Ay rfl (λbz=>?_) (λbz=>?_)))));refine Ao ?_;rotate_left;refine cS (C1 V1 (C1 Pa (cT (Ay rfl (λb0=>?_) (λb0=>?_)))));refine Ao ?_;rotate_left;refine cS (C1 V1 (C1 Pa (cT (Ay rfl (λb2=>?_) (λb2=>?_)))));refine Ao ?_;rotate_left;refine Al (C1 V1 (C1 Pa (Ak ?_)));rotate_left
   all_goals exact BY () (An rfl (An rfl (B4 rfl (congrArg Value.bool (decide_eq_decide.2 Ab)) BK))) rfl
 rintro-u3 h;subst h
 focus
  refine Ay rfl (λb3=>?_) (λb3=>?_);rotate_left;refine Aj ?_;rotate_left
 . obtain ⟨x,rfl,hx⟩:=T8 (HT.out Ab Ab) Ab;obtain ⟨kb,ko,rfl,kS,N⟩:=BG O AK;obtain ⟨xa,xc,rx,sx⟩:=N 0 x rfl
   have he:EM (.mk k n s [x])=Eo (Ds [x] [x.name]):=by rw [Fl,At Ab,At Ab,At Ab,At Ab,AH Ab];rfl
   have HA:=gO (PB [x] [x.name] Ab (λt ht=>by simp at ht;subst ht;exact F5 hx) AK);rw [he];replace M:Blk u3 b1 [.int .u8 k,.int .i64 n,str s,.slice (some ⟨kb,ko,none⟩) 1 c]:=M
   refine Aj (Aq (λwz=>Ext u3 wz) 11 (.pure 0 (.pure 1 (.pure 2 (.pure 3 (.pure 4 (.pure 5 (.pure 6 (.fork 7 (.fork 8 (.pure 9 (.pure 10 .tail)) .none) .none)))))))) mixed AU (Aa (Af (Aa Ag))) ?_);intro b4 be _;have Y:(λwz=>Ext u3 wz) b4:=be;simp only at Y;have aa:=rx;have U:=M;revert X O;refine eE be ?_;intro X O;refine ⟨Y,(Tq rfl Pf (Tq rfl (Db U) (Tq rfl Pf (Tq rfl (Db U) (Tq rfl Pi (Tq rfl Pf (Tq rfl (Dr aa) (AE rfl (Dd [_] Ac CJ rfl rfl rfl rfl rfl rfl rfl rfl rfl) rfl ?_ aFh AC))))))))⟩;rintro _ dz ⟨d0,rfl,bf,d1⟩;have dl:=bf.blk;have bg:=bf.ext;revert Y X O;refine eE bg ?_;intro Y X O;refine ⟨Y,(AE rfl (AN AU rfl (HA.out _ _ _ _ _ _ _ Ae (mi Ae)) (λ_ _ h=>⟨_,h.1⟩)) rfl ?_ aFh AC)⟩;rintro _ dm ⟨⟨⟩,bh⟩;revert Y X;refine eE bh ?_;intro Y X;refine ⟨Y,(Tq rfl Px (Tq rfl Px (Ar rfl (C1 Pa (C1 Pa (cT (AR (AJ (As (Bc rfl rfl rfl ?_))))))))))⟩
   all_goals exact ⟨rfl,X⟩
 refine DD (ι:=Unit) (λ_=>[(1,pt b1),(10,.int .u8 k),(94,.bool (decide (50<=k/\k<=51)))]) (λ_ w'=>w'=u3) ?_ ?_
 . focus
    refine cS (C1 V1 (C1 Pa (cT (Ay rfl (λb5=>?_) (λb5=>?_)))));refine Ao ?_;rotate_left;refine Al (C1 V1 (C1 Pa (Ak ?_)));rotate_left
   all_goals exact BY () (An rfl (An rfl (B4 rfl (congrArg Value.bool (decide_eq_decide.2 Ab)) BK))) rfl
 rintro-u4 h;subst h
 focus
  refine Ay rfl (λb6=>?_) (λb6=>?_);rotate_left;rotate_left
 . have he:EM (.mk k n s l)=Eo (LJ [] l):=by rw [Fl,At Ab,At Ab,At Ab,At Ab,At Ab,AH Ab]
   rw [he]
   refine cS (C1 Pf (C1 (Pl M) (C1 Pz (C1 Mv (cT ?_)))))
   refine Au ?_;refine AQ (ι:=Nat) (λi=>[(1,pt b1),(98,.slice a l.length c),(99,.int .i64 l.length),(100,.int .i64 i)])
    (λi w'=>i<=l.length/\Blk w' b1 [.int .u8 k,.int .i64 n,str s,.slice a l.length c]/\rowSits (· < w.heap.size) w' l a/\Ext w w'/\LJ [] l=LJ (l.take i) (l.drop i))
    (λi=>l.length-i) 0 sB ⟨ii _,M,O,X,AK⟩ ?_
   rintro i v1 ⟨hi,M,O,X,hd⟩;have d2:=M.lt
   by_cases an:i<l.length
   . obtain ⟨kb,ko,rfl,kS,N⟩:=BG O (by intro e;subst e;simp at an);obtain ⟨xa,xc,rx,sx⟩:=N i l[i] (gN an);rw [iB an,LJ] at hd;have b7:l.take i++[l[i]]=l.take (i+1):=(gS an).symm
     have b8:(l.take i).length=i:=by simp;omega
     have hm:(i:Int)=(i:Int):=rfl;have aj:=J7 l i _ O;have HC:=gO (QR (l.take i) Ab l[i]);rw [b8] at HC;rw [b7] at hd
     generalize l[i]=x at *
     generalize (l.take i).any (λt=>decide (t.name=x.name))=q at *
     focus
      refine cS (C1 V3 (cT (Aj (TM (Ao (Ai (Aj (Au (cS (C1 Mv (C1 Pi (C1 (YN rx) (eA [_,_,_,_] ?_)))))))))))));intro d3 d4 b9 ca d5 d6;revert X M O aj;refine eE ca ?_;intro X M O aj;refine C1 Pa (eS [_,_,_,_] b9 ?_);intro d7 ak bi dn;revert X M O aj;refine eF bi ?_;intro X M O aj;refine cN (C1 Pf (C1 (Pl M) (C1 Mv (C1 (DM Ac rfl rfl rfl rfl hm Ab) (C1 (B6 rfl) (cC rfl (HC.out _ _ _ _ _ _ _ aj Ae) ?_))))));rintro _ dp ⟨⟨⟩,bj⟩;revert ak X M O;refine eE bj ?_;intro ak X M O;refine cT (FR rfl (λbk=>?_) (λbk=>?_));refine cS (C1 Pf (C1 (Pl ak) (C1 Pa (C1 Pa (cT (AR (AJ (As (As (AJ (AJ (As (Bc rfl rfl rfl ?_)))))))))))));rotate_left;refine Ao (Ah (Ai (Al (C1 V7 (C1 Mv (Ak ?_))))));rotate_left
     . rw [AH Ae] at hd
       exact ⟨by rw [hd];rfl,X⟩
     . rw [At (by simp [*])] at hd
       exact AA (i+1) sB ⟨Ab,M,O,X,hd⟩ Ab
   . obtain rfl:i=l.length:=by omega
     rw [kA,LJ] at hd;rw [hd]
     refine cS (C1 V3 (cT (Aj (Dz (B9 (Az (Az (A0 (Ah (Ai (cS (C1 Pa (C1 Pa (cT (AR (Bc rfl rfl rfl ?_))))))))))))))))
     exact ⟨rfl,X⟩
 focus
  refine cS (C1 V1 (C1 Pa (cT (Ay rfl (λcb=>?_) (λcb=>?_)))));rotate_left;rotate_left
 . obtain ⟨x,y,z,u,rfl,hx,hu⟩:=Lm (HT.out Ab Ab) Ab;obtain ⟨kb,ko,rfl,kS,N⟩:=BG O AK;obtain ⟨xa,xc,rx,sx⟩:=N 0 x rfl;obtain ⟨ua,uc,ru,su⟩:=N 3 u rfl
   have he:EM (.mk k n s [x,y,z,u])=if (u.const.2 && !x.const.2)=true then ([],10) else ([],0):=by rw [Fl,At Ab,At Ab,At Ab,At Ab,At Ab,At Ab,AH Ab];rfl
   have HX:=gO (Ji x (by have:=HZ.out x AK;omega) (HF.out x AK));have HU:=gO (Ji u (by have:=HZ.out u AK;omega) (HF.out u AK));rw [he]
   generalize x.const.2=q at *
   generalize u.const.2=p at *
   replace M:Blk u4 b1 [.int .u8 k,.int .i64 n,str s,.slice (some ⟨kb,ko,none⟩) 4 c]:=M
   focus
    refine cS (C1 Pf (C1 (Pl M) (C1 Pi (C1 (YN ru) (cC rfl (HU.out _ _ _ _ su) ?_)))));rintro _ d8 ⟨⟨⟩,cc⟩;revert X rx sx M;refine eE cc ?_;intro X rx sx M;refine C1 Mv (O2 rfl rfl rfl (λcd=>?_) (λcd=>?_));refine Bn rfl rfl rfl (Hi Ae) (C1 Pf (Bn rfl rfl rfl (Hi Ae) (C1 (Pl M) (Bn rfl rfl rfl (Hi Ae) (C1 Pi (Bn rfl rfl rfl (Hi Ae) (BT [_,_,_,_] Ac rfl rfl rfl rx rfl rfl rfl (Bn rfl rfl rfl (Hi Ae) (cC rfl (HX.out _ _ _ _ sx) ?_)))))))));rintro _ d9 ⟨⟨⟩,ce⟩;replace X:=X.ext ce;refine Bn rfl rfl rfl (Hi Ae) (C1 Pt (C1 (Co rfl rfl Ae) (cT (JG rfl (λcf=>?_) (λcf=>?_)))));refine cS (C1 Pa (C1 Pa (cT (AR (AJ (As (Bc rfl rfl rfl ?_)))))));rotate_left;refine Ao (Ah (Ai (cS (C1 Pa (C1 Pa (cT (AR (Bc rfl rfl rfl ?_))))))));rotate_left;refine Bh rfl rfl rfl (Hj Ae) rfl (Bh rfl rfl rfl (Hj Ae) rfl (Bh rfl rfl rfl (Hj Ae) rfl (Bh rfl rfl rfl (Hj Ae) rfl (Bh rfl rfl rfl (Hj Ae) rfl (Bh rfl rfl rfl (Hj Ae) rfl ?_)))))
    refine C1 (BR rfl rfl Ae) (cT (Ba rfl (Ao (Ah (Ai (cS (C1 Pa (C1 Pa (cT (AR (Bc rfl rfl rfl ?_)))))))))));rotate_left
   all_goals exact ⟨by simp [*],X⟩
 focus
  refine cS (C1 V1 (C1 Pa (cT (Ay rfl (λcg=>?_) (λcg=>?_)))));rotate_left;refine Ao (Ah (Ai (cS (C1 Pa (C1 Pa (cT (AR (Bc rfl rfl rfl ?_))))))));rotate_left
 . obtain ⟨x,y,z,u,rfl,hx,hu⟩:=Lm (HT.out Ab Ab) Ab;obtain ⟨kb,ko,rfl,kS,N⟩:=BG O AK;obtain ⟨xa,xc,rx,sx⟩:=N 0 x rfl
   have he:EM (.mk k n s [x,y,z,u])=if x.const.2=true then ([],10) else ([],0):=by rw [Fl,At Ab,At Ab,At Ab,At Ab,At Ab,At Ab,At Ab,AH Ab];rfl
   have HX:=gO (Ji x (by have:=HZ.out x AK;omega) (HF.out x AK));rw [he]
   generalize x.const.2=q at *
   replace M:Blk u4 b1 [.int .u8 k,.int .i64 n,str s,.slice (some ⟨kb,ko,none⟩) 4 c]:=M
   focus
    refine cS (C1 Pf (C1 (Pl M) (C1 Pi (BT [_,_,_,_] Ac rfl rfl rfl rx rfl rfl rfl (cC rfl (HX.out _ _ _ _ sx) ?_)))));rintro _ ea ⟨⟨⟩,ch⟩;replace X:=X.ext ch;refine cT (FR rfl (λci=>?_) (λci=>?_));refine cS (C1 Pa (C1 Pa (cT (AR (AJ (As (Bc rfl rfl rfl ?_)))))));rotate_left;refine Ao (Ah (Ai (cS (C1 Pa (C1 Pa (cT (AR (Bc rfl rfl rfl ?_))))))));rotate_left
   all_goals exact ⟨by simp [*],X⟩
 . have he:EM (.mk k n s l)=([],0):=by rw [Fl,At Ab,At Ab,At Ab,At Ab,At Ab,At Ab,At Ab,At Ab]
   rw [he]
   exact ⟨rfl,X⟩
def rejShape:Shape Int where
 sz:=4
 rep _ _ x cs:= ∃(p:Int) (pa:oA) (pn pc:Nat) (s:lB),cs=[.int .i64 p,.slice pa pn pc,.int .i64 x,str s]
 len h:=by obtain ⟨_,_,_,_,_,rfl⟩:=h;rfl
 one h:=by obtain ⟨_,_,_,_,_,rfl⟩:=h;rfl
 mono h _ _:=h
 lt h:=h
def Cl (l:List Nd):List Int:=(l.map λm=>(EM m).2).filter (λe=>decide (e≠0))
def QT (l:List Nd) (x:Nd):Cl (l++[x])=if (EM x).2=0 then Cl l else Cl l++[(EM x).2]:=by
 unfold Cl;rw [jm,List.filter_append];by_cases h:(EM x).2=0
 . rw [AH h];simp [h]
 . rw [At h];simp [h]
def GZ (l:List Nd):(Cl l).length<=l.length:=by
 unfold Cl;exact jg (List.length_filter_le _ _) AK
mutual
def Ht:∀t:Nd,t.walk.length=t.size
 | .mk k n s l=>by simp only [Nd.walk,mg,gV,Ln l];omega
def Ln:∀l:List Nd,(BU l).length=AV l
 | []=>rfl
 | t::r=>by simp only [BU,AV,iq,Ht t,Ln r]
end
def ChkR (xs:List Int) (w:wD):Ending->wD->Prop:=λe w'=> ∃a c,e = .returned (.slice a xs.length c)/\OwnQ rejShape w' (λ_=>False) w.heap.size 140 (.slice a xs.length c) xs/\Ext w w'/\(xs=[]->a=none/\c=0)
def ChkR.ret {xs:List Int} {e:Ending} (h:ChkR xs w e w'):∃v,e = .returned v:=by
 obtain ⟨_,_,h,-⟩:=h;exact ⟨_,h⟩
def T9 (p:Int) (t:Nd) (hz:t.size<=1000000) (U:∀x∈t.walk,x.good/\x.wf/\x.size<=1000000) (S:nP) (a:oA) (c:Nat) (w:wD) (hs:t.sits S w a) :
 Calls prog 110 #[.int .i64 p,t.val a c] w (ChkR (Cl t.walk) w):=by
 have HG:=gO U;have X:=Ne w;refine Gu (args:=[_,_]) func110 ntmps110 rfl rfl (cS (eB [_] ?_));intro b1 w2 h4 x5 p6 z7;revert hs X;refine eE x5 ?_;intro hs X;refine eB [_,_,_,_] ?_;intro b8 w9 am ar be bf;revert h4 hs X;refine eE ar ?_;intro h4 hs X;refine eK ?_;refine eA [_] ?_;intro ak au al av bg z22;revert am h4 hs X;refine eE av ?_;intro am h4 hs X;refine kQ (WU _ hz _ _ _ _ Ae) ?_;rintro _ ab ⟨a6,⟨⟩,aw,ax⟩;revert al h4 X;refine eY ax ?_;intro bh al h4 X;refine cT ?_;refine Au ?_;refine QP rfl rfl rfl AU aw (λ_ _ _ _ h=>aS h) (λk G=>G.2)
  (λA xs W=> ∃Y Z,Blk W ak [.slice Y (Cl xs).length Z]/\OwnQ rejShape W (λ_=>False) w.heap.size 140 (.slice Y (Cl xs).length Z) (Cl xs)/\(∀g,(iD Y (Cl xs).length Z).ownBlock=some g -> ¬A g/\ab.heap.size<=g)/\Blk W b1 [.int .i64 p]/\Ext w W/\(Cl xs=[]->Y=none/\Z=0))
  (λ_ _ _=>False) ?_ (λ_ _ _ _ _ h=>h.elim) ⟨none,0,al,mP,λg U=>by simp [jB] at U,h4,X,λ_=>⟨rfl,rfl⟩⟩ ?_ ?_ (λ_ _ _ _ _ h=>h.elim)
 . rintro A A' xs W W' ⟨Y,Z,h1,h2,h3,h4,x,h5⟩ hf hA-ay;exact ⟨Y,Z,h1.fr hf (λe=>by have:=hA _ e;omega),h2.fr hf (λk G=>⟨id,λe=>(h3 k e).1 G⟩),λg U=>⟨λe=>(h3 g U).1 (ay g (h2.lt U) e),(h3 g U).2⟩,h4.fr hf (λe=>by have:=hA _ e;omega),me x hf (λk G=>by have:=hA _ G;omega),h5⟩
 . rintro r A pre x u v W hA an ⟨Y,Z,V,j2,j3,O,N,j5⟩ ⟨pa,pn,pc,xa,xc,e,sx,a7⟩ ag;simp only [iT,and_true] at e;obtain ⟨rfl,rfl⟩:=e;have bi:=hA _ an;obtain ⟨g1,g2,g3⟩:=HG.out x (by obtain ⟨q,hq⟩:=ag;rw [<-hq];simp);have a8:(Cl pre).length<=1000000:=by
    have h1:=GZ pre;have h2:=ag.length_le;rw [Ht] at h2;simp only [iq,gV,iG] at h2;omega
   have M:∀g,(iD Y (Cl pre).length Z).ownBlock=some g -> ¬A g/\ab.heap.size<=g/\g<W.heap.size:=λg U=>⟨(j3 g U).1,(j3 g U).2,j2.lt U⟩
   have ao:=QT pre x;have HR:=gO (W5 x g3 g2 g1);have X1:=Ne W;refine Dh (Bs rfl (Bw Gv) (C1 Pa (Ak (Cw (Bs rfl Gv (ED [_,_,_,_] CJ rfl rfl ?_))))));intro bj bk az;refine eI [_,_,_,_] az ?_;intro bl ae a0 bm bn;revert V j2 O N sx X1;refine eE a0 ?_;intro V j2 O N sx X1;refine Ak (Is (mW X1) λW2 f2=>?_)
   have a1:∀k,k=ab.heap.size+1 -> ¬False/\(iD Y (Cl pre).length Z).ownBlock≠some k:=λk e=>⟨id,λh=>(M k h).1 (e▸an)⟩
   revert ae V;refine eF f2 ?_;intro ae V;replace j2:=j2.fr f2 a1;replace O:=O.fr f2 Ab;replace N:=me N f2 (λk G=>by omega);replace sx:=sx.fr f2 (λb hb e=>by omega);have bo:=f2.size;have a2:∀k,A k->ab.heap.size<=k/\k<W2.heap.size:=λk G=>by have:=hA k G;omega
   have HA:=gO a2;generalize EM x=ev at *;obtain ⟨en,ec⟩:=ev;dsimp only at ao HR;have HN:=gO ao;have X3:=lZ (λk=>k=ak\/(iD Y (Cl pre).length Z).ownBlock=some k) W2;have hK:∀k,A k\/(au.heap.size<=k/\k<ab.heap.size) -> ¬(k=ak\/(iD Y (Cl pre).length Z).ownBlock=some k):=λk G h=>by
    rcases h with h|h
    . rcases G with G|G
      . have:=HA.out k G;omega
      . omega
    . rcases G with G|G
      . exact (M k h).1 G
      . have:=M k h;omega
   by_cases he:ec=0
   . have hN:=HN.out;rw [AH he] at hN;subst he;refine Gt (Dh (Bs rfl (Bw (By B5)) (A1 [_,_,_,_] Ac rfl rfl rfl ae rfl rfl rfl (cC rfl (HR.out _ _ _ _ Ae Ab) ?_))));rintro _ bp ⟨⟨⟩,a3⟩;revert V j2 O N X3;refine eE a3 ?_;intro V j2 O N X3;refine C1 Mv (C1 Px (C1 Px (C1 Pa (C1 Pa (Ak (Cw (Dh (Bs rfl (Bw (By B5)) (C1 Mv (C1 V2 (Ak (Cw (aR rfl B7 (F0 (Ah ?_)))))))))))))));exact Jg (mO X3 hK) ⟨Y,Z,by rw [hN];exact V,by rw [hN];exact j2,by rw [hN];exact λg U=>⟨(M g U).1,(M g U).2.1⟩,O,N,by rw [hN];exact j5⟩
   . have hN:=HN.out;rw [At he] at hN;refine Gt (Dh (Bs rfl (Bw (By B5)) (A1 [_,_,_,_] Ac rfl rfl rfl ae rfl rfl rfl (cC rfl (HR.out _ _ _ _ Ae Ab) ?_))));rintro _ bq ⟨⟨⟩,a4⟩;revert V j2 O N X3;refine eY a4 ?_;intro br V j2 O N X3;refine C1 Mv (C1 Px (C1 Px (C1 Pa (C1 Pa (Ak (Cw (Dh (Bs rfl (Bw (By B5)) (C1 Mv (C1 V2 (Ak (Cw (WW rfl Ae (Bs rfl (By B5) (eK ?_)))))))))))))));refine C1 (D3 [_,_,_,_] Ac CJ rfl rfl rfl rfl) (Ax (Dd [_,_,_,_] Ac CJ rfl rfl rfl rfl rfl rfl rfl rfl rfl) rfl ?_ aFh);rintro _ bs ⟨bt,rfl,af,bu⟩;have bv:=af.blk;have a5:=af.ext;have a9:=af.pos;have ba:=af.size;revert V j2 O N X3;refine eE a5 ?_;intro V j2 O N X3;refine Di (R:=λ_=>False) (sh:=rejShape) (z:=ec) Ac CJ rfl rfl rfl rfl AU rfl rfl rfl Ae (λ_ h=>by exact h) (mi Ae) ⟨_,_,_,_,_,rfl⟩ Ab Ab rfl ?_;rintro ac ad bb ah ai bc aa;replace V:=lY V aa (λh=>by have:=M _ h;omega);replace O:=lY O aa (λh=>by have:=M _ h;omega);replace N:=me N aa (λk G=>by have:=M _ G;omega);replace X3:=l8 X3 aa (λk G=>gP (gQ G));refine eS [_] V ?_;intro bd ap aj _;replace ah:=mS ah aj (λk G=>⟨id,λe=>by (obtain rfl:=gZ (show some ac=some k from e);rcases ai with h|h;have:=M _ h;omega;omega)⟩);revert O N X3;refine eF aj ?_;intro O N X3;refine Ak (Ah ?_)
     refine Jg (mO X3 hK) ⟨some ⟨ac,0,none⟩,ad,by rw [hN];exact ap,by rw [hN];assumption,λg U=>?_,O,N,λe=>by rw [hN] at e;simp at e⟩;obtain rfl:=gZ (show some ac=some g from U);rcases ai with h|h
     . exact ⟨(M _ h).1,(M _ h).2.1⟩
     . exact ⟨λhA=>by have:=HA.out _ hA;omega,Ab⟩
 . rintro A W hA ⟨Y,Z,V,j2,j3,O,N,j5⟩ hm G;refine It (DE (Ip (EL (FF (Ap Ac rfl rfl rfl (λwz hz=>by rw [show wz=W from hz];exact V.cell rfl)) rfl (FF (I1 rfl) rfl (GW (DE (J0 (QN G rfl rfl (λw2 aq=>?_))))))))));exact ⟨Y,Z,rfl,j2.fr aq (λk e=>⟨id,λh=>(j3 k h).1 (e▸hm)⟩),me N aq (λk e=>by omega),j5⟩
def C4 {P:Program} {l:Sl} {tab:Tab} {sz:Nat} {fn:Func} {R:Ending->wD->Prop} {O b s:Nat} {V:Sk} {vs:lV} {v3:Value} (h:fn.results = #[.cell O G,.tmp s]) (T:TabOk P tab) (X:AB tab G=some (V,sz)) (Y:V.agg=true) (Z:look l O=some (pt b)) (hb:Blk w b vs) (hl:vs.length=sz)
 (hz:look l s=some v3) (hR:R (.returned (.tuple #[.agg vs.toArray,v3])) w):QW n (bodyPost P fn R) .ret l w:=by
 unfold QW;intro a U;refine ⟨U.defers,.tuple #[.agg vs.toArray,v3],?_,hR⟩;have e:(loadVar G ⟨b,0,none⟩).run P w = .ok (.agg vs.toArray) w:=by
  simp only [ij,iC,gY,loadVar,CB (T _ _ _ X),Y,if_true,Ca (T _ _ _ X)];rw [<-hl,CD hb.row]
 have M:=U.has O _ Z;have N:=U.has s _ hz;simp only [jf] at M N;simp [results,h,M,N,e,asAddr]
def W6 (q:Bool) (t:Nd) (h:t.size<=1000000) (G:t.isStmt=true\/t.isBlock=true) (S:nP) (a:oA) (c:Nat) (w:wD) (M:t.sits S w a):Calls prog 111 #[t.val a c,.bool q] w (CopyR (t.inv q) w):=WP q (t.size+1) t S a c w Ab h G M
def W7:VD:=⟨[],0,0⟩
def SR {l:List VD} {j:Nat} (h:j<l.length) (s:lB):Ea (l.take (j+1)) s=if l[j].name=s then some l[j] else Ea (l.take j) s:=by
 unfold Ea;rw [gS h,List.reverse_append,List.reverse_singleton,kO,List.find?_cons];by_cases G:l[j].name=s
 . simp [G]
 . simp [G]
def VDs.get {l:List VD} (h:VDs S w l a) (G:l≠[]):∃b o,a=some ⟨b,o,none⟩/\S b /\ ∀i v,l[i]? = some v->Row w ⟨b,o+i*3,none⟩ v.cells:=by
 rcases h with h|⟨b,o,M,N,O⟩
 . exact absurd h G
 . exact ⟨b,o,M,N,λi v U=>O i v U⟩
def VDs.ltV {l:List VD} (h:VDs S w l a):VDs (· < w.heap.size) w l a:=h.lt2.wide λ_ h=>h.2
def PF (l:List VD) (hl:l.length<=1000000) (s:lB) (S:nP) (a:oA) (c:Nat) (w:wD) (h:VDs S w l a) :
 Calls prog 141 #[.slice a l.length c,str s] w λe w'=>e = .returned (.tuple #[((Ea l s).getD W7).val,.bool (Ea l s).isSome])/\Ext w w':=by
 have X:=Ne w;have h:=h.ltV;refine Ad func141 ntmps141 rfl rfl (cS (eA [_,_,_] ?_));intro b1 w2 h5 x6 p7 z8;revert X h;refine eE x6 ?_;intro X h;refine eK ?_;refine C1 (AL rfl rfl (gX _ Ab)) (C1 Pa (cT ?_));refine Au ?_;refine AQ (ι:=Nat) (λj=>[(0,.slice a l.length c),(1,str s),(4,pt b1),(6,.int .i64 ((j:Int)-1))])
  (λj w'=>j<=l.length/\VDs (· < w.heap.size) w' l a/\Blk w' b1 [.string ⟨#[]⟩,.int .u8 0,.int .i64 0]/\Ext w w'/\Ea l s=Ea (l.take j) s)
  (λj=>j) l.length sB ⟨ip _,h,h5,X,by rw [im]⟩ ?_
 rintro j w1 ⟨hj,h,O,X,G⟩;cases j with
 | zero=>
  have e0:Ea l s=none:=by rw [G];rfl
  rw [e0];refine eK ?_;refine C1 (xB [_,_,_]) (eS [_,_,_] O ?_);intro aa ab U _;have X:=X.fr U Ab;refine eK ?_;refine C4 rfl Ac rfl rfl rfl Ae rfl rfl ?_;exact ⟨rfl,X⟩
 | succ j=>
  have M:j<l.length:=by omega
  obtain ⟨kb,ko,rfl,kS,N⟩:=h.get (by intro e;subst e;simp at M);have r0:=N j l[j] (gN M);have hn:=SR M s;rw [hn] at G;generalize l[j]=v at *;have V:(((j+1:Nat):Int)-1)=(j:Int):=by omega
  obtain ⟨vn,vk,vl⟩:=v;replace r0:Row w1 ⟨kb,ko+j*3,none⟩ [str vn,.int .u8 vk,.int .i64 vl]:=r0;dsimp only at G;rw [V]
  focus
   refine eK ?_;refine Ay rfl (λY=>?_) (λY=>?_);refine eK ?_;refine eS [_,_,_] O ?_;intro ac ad Z _;have X:=X.fr Z Ab;refine eK ?_;rotate_left;refine eK ?_;refine C1 (AL rfl rfl (gX _ Ab)) (C1 Pa (Ak ?_));rotate_left
  . refine C4 rfl Ac rfl rfl rfl Ae rfl rfl ?_;rw [AH Ae] at G;rw [G];exact ⟨rfl,X⟩
  . rw [At Ae] at G;exact AA j sB ⟨Ab,h,O,X,G⟩ Ab
section
variable {P:Program} {l:Sl} {S:wD->Prop} {tab:Tab} {zt:Ey} {ty:TypeId}
def QU {x y z:Operand} {t e sz len cap:Nat} {sE:Sk} {k N:IntKind} (T:TabOk P tab) (Y:AB tab t=some (.slice e,G)) (Z:AB tab e=some (sE,sz)) (hx:ev l x=some (.slice a len cap)) (hy:ev l y=some (.int k (len:Int))) (hz:ev l z=some (.int N (len:Int))) (hm:len<=cap) :
 Br P n l S (.slice t x none (some y) (some z)) ty (.slice a len len):=by
 unfold Br;intro aa w ab pos after g O _;have V:P.underlying t=some (.slice e):=(T _ _ _ Y).under;have h:P.elem t=e:=by simp [Program.elem,V]
 have M:P.underlying t=some (.slice (P.elem t)):=by rw [h];exact V
 obtain ⟨i,hi,hs⟩:=(T _ _ _ Z).info;have U:(Go.sizeOf e).run P w = .ok sz w:=by simp [Go.sizeOf,typeInfo,program,jP,bind,Sem.bind,pure,hi,hs]
 have h1:(Instr.sliceAt t (.slice a len cap) none (some (.int k (len:Int))) (some (.int N (len:Int)))).run P w = .ok (.slice a len len) w:=by
  rw [run_sliceAt_slice w t _ _ _ _ M,run_slice_hm w t a len cap M k N len len Ab Ab Ab];rw [h,U];simp only [gY,sliced,Int.toNat_natCast,jM,kZ];by_cases X:len=0
  . rw [AH X]
  . rw [At X];cases a<;>simp [jA]
 simp [execOp,O.ev hx,O.ev hy,O.ev hz,ij,h1,gY]
def C5 {x y:Operand} {t e sz m cap:Nat} {sE:Sk} {zs:lV} {p:Addr} {cs us:lV} {R:nP} (T:TabOk P tab) (Z:Ct P zt) (ht:AB tab t=some (.slice e,G)) (hE:AB tab e=some (sE,sz)) (hz:CP zt e=some zs) (hzl:zs.length=sz)
 (hby:Dt P e=true) (hsz:iE 0 sz=true) (hx:ev l x=some (.slice a m m)) (hy:ev l y=some (.slice (some p) 1 cap)) (hs:Rows R w cs a) (hcl:cs.length=m*sz) (hr:Row w p us) (hul:us.length=1*sz) (hu:us.all mq=true) (hm:m<=1000000000) :
 BE P n l (.call ⟨.builtin .append,#[x,y],#[t,t]⟩) ty w (Gd λo w'=> ∃g cap',o = .slice (some ⟨g,0,none⟩) (m+1) cap'/\m+1<=cap'/\Row w' ⟨g,0,none⟩ (cs++us)/\w.heap.size<=g/\g<w'.heap.size/\Ext w w'):=by
 obtain ⟨i,v0,z1,z2,z3⟩:=E5 Z hz;obtain ⟨i',hi',hs'⟩:=(T _ _ _ hE).info;rw [z1] at hi';obtain rfl:=gZ hi';have hbb:i.bytes<=1000:=by
  unfold Dt at hby;rw [z1] at hby;exact iA hby
 have hzs:v0.cells.size=sz:=by rw [z3];simpa using hzl
 have hsz':0<sz:=iA hsz;have hbytes:(m+1)*i.bytes<=140737488355328:=by have:=lS (show m+1<=1000000001 by omega) hbb;omega
 have hnews:∀j u,us[j]? = some u->w.cell? (p.add j)=some u:=λj u hj=>hr j u hj
 have hu':P.underlying t=some (.slice e):=(T _ _ _ ht).under;have c:m+1<=maxLen:=by unfold maxLen;omega
 have key:∃g cap' w',(Builtin.append_ #[t,t] ty #[.slice a m m,.slice (some p) 1 cap]).run P w = .ok (.slice (some ⟨g,0,none⟩) (m+1) cap') w'/\m+1<=cap'/\Row w' ⟨g,0,none⟩ (cs++us)/\w.heap.size<=g/\g<w'.heap.size/\Ext w w':=by
  have fin:∀(v':Value) (w':wD),w'.ownsRow w.heap.size e sz v' (m+1) (cs++us)->w.grownBy w' none -> ∃g cap',v' = .slice (some ⟨g,0,none⟩) (m+1) cap'/\m+1<=cap'/\Row w' ⟨g,0,none⟩ (cs++us)/\w.heap.size<=g/\g<w'.heap.size/\Ext w w':=λv' w' h1 h2=>by
   have ho:Own w' w.heap.size e sz v' (m+1) (cs++us):=h1;have hx:Ext w w':=⟨h2.os,h2.tape,h2.output,h2.size,λk hk=>h2.block k hk AK⟩
   rcases ho.row with ⟨-,h0,-⟩|⟨g,cap',rfl,hg,hob,hrr⟩
   . omega
   . exact ⟨g,cap',rfl,TX ho,hrr,hg,(ho.blk hob).2,hx⟩
  cases a with
  | some b=>
   obtain ⟨v',w',hrun,h1,h2⟩:=run_append_arg_grows (P:=P) w t ty e i v0 sz i.bytes hu' z1 z2 hs' rfl hzs hsz' b m m cs hcl (λj u hj=>by
    rcases hs with rfl|⟨b',o,hb,-,hrow⟩
    . simp at hj
    . obtain rfl:=gZ hb;exact hrow j u hj) p 1 cap us hul hnews Ab c hbytes
   obtain ⟨g,cap',rfl,k⟩:=fin v' w' h1 h2;exact ⟨g,cap',w',hrun,k⟩
  | none=>
   have d:cs=[]:=by
    rcases hs with rfl|⟨b',o,hb,-⟩
    . rfl
    . cases hb
   subst d;have f:m=0:=by
    simp only [iG] at hcl;rcases lK m with h|h
    . exact h
    . have:=Nat.mul_pos h hsz';omega
   subst f;have h1c:∀u∈us,u.oneCell'=true:=λu hm=>by rw [<-TI];exact iN.1 hu u hm
   obtain ⟨v',w',hrun,h1,h2,-⟩:=run_append_own (P:=P) w w.heap.size t ty e i v0 sz i.bytes hu' z1 z2 hs' rfl hzs hsz' (.slice none 0 0) 0 [] mR p 1 cap us hul hnews h1c (by unfold maxLen;omega) (by simpa using hbytes) (ip _);obtain ⟨g,cap',rfl,k⟩:=fin v' w' (by simpa using h1) (by simpa [jB] using h2);exact ⟨g,cap',w',hrun,k⟩
 obtain ⟨g,cap',w',hrun,k⟩:=key;unfold BE;intro act dst pos after gd next Q ha hn _;have e1:(execOp act.eval ⟨dst,.call ⟨.builtin .append,#[x,y],#[t,t]⟩,ty,pos,after,gd⟩).run P w = .ok (.value (.slice (some ⟨g,0,none⟩) (m+1) cap')) w':=by
  simp only [execOp,resolve,invoke,builtin,ij,iC,jq,ln,iR,ky,ha.ev hx,ha.ev hy,hrun]
 unfold jy;rw [e1];exact hn _ _ ⟨g,cap',rfl,k⟩
end
def KK:(prog.fieldsOf 77).toList.map (λf=>(f.name == "_",f.type,f.offset))=[(false,9,0),(false,5,1),(false,3,2)]:=by kernel_rfl
def QV:prog.underlying 77=some (.struct (prog.fieldsOf 77)):=by kernel_rfl
def QX:prog.stoodInHeld 77=false:=by kernel_rfl
def QY:prog.eqGuardType prog.depth 77=false:=by kernel_rfl
def IT {P:Program} {d:Nat} {xs:Array Value} {w:wD}:∀(G:List Field),(∀f∈G,∃v,(part f.type xs f.offset).run P w = .ok v w/\(Op.equalIn d f.type v v).run P w = .ok true w)->(Op.eqFields d xs xs G).run P w = .ok true w
 | [],_=>by simp [Op.eqFields]
 | f::G,h=>by
  obtain ⟨v,N,O⟩:=h f je;have M:=IT (P:=P) (d:=d) (xs:=xs) (w:=w) G (λg U=>h g (iU _ U));unfold Op.eqFields;split
  . simp only [ij,N,O,jq,lU,iS,if_false,M]
  . exact M
def Ep {P:Program} {tab:Tab} {t sz h:Nat} {s:Sk} {cs:lV} (T:TabOk P tab) (G:AB tab t=some (s,sz)) (M:s.agg=false) (N:cs[h]? = some v) (w:wD):(part t cs.toArray h).run P w = .ok v w:=by
 simp [part,ij,CB (T _ _ _ G),M,gY,N]
def QZ (v:VD) (w:wD):(Op.equalIn 10000 77 v.val v.val).run prog w = .ok true w:=by
 rw [show (10000:Nat)=9999+1 from rfl,run_equalIn_agg w 9999 _ _ _ QV QX];refine IT _ (λf N=>?_);have M:(f.name == "_",f.type,f.offset)∈(prog.fieldsOf 77).toList.map (λf=>(f.name == "_",f.type,f.offset)):=List.mem_map.2 ⟨f,N,rfl⟩;rw [KK] at M;simp only [io,iZ,or_false,kE] at M
 rcases M with ⟨-,h,G⟩|⟨-,h,G⟩|⟨-,h,G⟩
 . rw [h,G]
   refine ⟨str v.name,Ep (cs:=v.cells) Ac rfl rfl rfl w,?_⟩
   rw [run_equalIn_string w 9998 _ _ _ (show prog.underlying 9=some .string from (Ac 9 .str 1 rfl).under)];simp
 . rw [h,G]
   refine ⟨.int .u8 v.kind,Ep (cs:=v.cells) Ac rfl rfl rfl w,?_⟩
   rw [run_equalIn_int w 9998 _ _ .u8 _ _ (show prog.underlying 5=some (.int .u8) from (Ac 5 (.int .u8) 1 rfl).under)];simp
 . rw [h,G]
   refine ⟨.int .i64 v.len,Ep (cs:=v.cells) Ac rfl rfl rfl w,?_⟩
   rw [run_equalIn_int w 9998 _ _ .i64 _ _ (show prog.underlying 3=some (.int .i64) from (Ac 3 (.int .i64) 1 rfl).under)];simp
def Vj {l:Sl} {S:wD->Prop} {ty t':TypeId} {x y:Operand} {v:VD} (G:ev l x=some v.val) (M:ev l y=some v.val):Br prog n l S (.binOp .neq 77 x y t') ty (.bool false):=by
 unfold Br;intro a w N pos after g h _;have O:=run_eqGuard_agg (P:=prog) w .neq 77 x y v.cells.toArray v.cells.toArray QY;have U:(binOp .neq 77 v.val v.val).run prog w = .ok (.bool false) w:=by
  rw [run_neq_struct,QZ];rfl
 simp only [execOp,h.ev G,h.ev M,ij,O,U,jq,iC]
def PDs.ltA (h:PDs S w l a):PDs (· < w.heap.size) w l a:=by
 rcases h with h|⟨b,o,N,h2,M⟩
 . exact gP h
 . cases l with
   | nil=>exact gP rfl
   | cons v r=>
    obtain ⟨_,_,_,_,G,-,-⟩:=M 0 v rfl;refine gQ ⟨b,o,N,Cs (mb G rfl),λi x O=>?_⟩;obtain ⟨U,V,X,Y,G,Z,hs⟩:=M i x O;exact ⟨U,V,X,Y,G,Z.lt2.wide (λ_ h=>h.2),Cd _ _ hs⟩
structure PG.few (g:PG):Prop where
 nv:g.vars.length<=1000000
 np:g.procs.length<=1000000
 main:g.main.size<=1000000
 procs:∀p∈g.procs,p.params.length<=1000000/\p.body.size<=1000000
def PH (l:List VD) (V:l.length<=1000000) (s:lB) (S:nP) (a:oA) (c:Nat) (w:wD) (G:VDs S w l a) :
 Calls prog 105 #[.slice a l.length c,str s] w λe w'=>e = .returned (.int .i64 (Fd l s))/\Ext w w':=by
 have X:=Ne w;have M:=gO (PF l V s);unfold Fd;generalize Ea l s=o at *;cases o with
 | none=>
  dsimp only [Option.isSome,Option.getD] at M ⊢;refine Ad func105 ntmps105 rfl rfl (kC (M.out _ _ _ _ Ae) ?_);rintro _ w2 ⟨⟨⟩,Y⟩;revert G X;refine eE Y ?_;intro G X;refine eK ?_;refine xA [_,_,_] ?_;intro b4 w5 Z;refine eI [_,_,_] Z ?_;intro w7 h8 x9 _ _;revert G X;refine eE x9 ?_;intro G X;refine kR ?_;exact ⟨rfl,X⟩
 | some v=>
  obtain ⟨vn,vk,vl⟩:=v;dsimp only [Option.isSome,Option.getD] at M ⊢;refine Ad func105 ntmps105 rfl rfl (kC (M.out _ _ _ _ Ae) ?_);rintro _ aa ⟨⟨⟩,N⟩;revert G X;refine eE N ?_;intro G X;refine eK ?_;refine xA [_,_,_] ?_;intro ab ac h;refine Dl [_,_,_] Ac rfl rfl rfl rfl rfl rfl h rfl ?_;intro ad h;have O:=h.blk;dsimp only at O;have U:=h.ext;revert G X;refine eE U ?_;intro G X;refine kR ?_;exact ⟨rfl,X⟩
def eH (l:List VD) (V:l.length<=1000000) (s:lB) (k:Int) (S:nP) (a:oA) (c:Nat) (w:wD) (hs:VDs S w l a) :
 Calls prog 172 #[.slice a l.length c,str s,.int .u8 k] w λe w'=>e = .returned (.int .i64 (Ek l s k))/\Ext w w':=by
 have X:=Ne w;have M:=gO (PF l V s);unfold Ek;generalize Ea l s=o at *;cases o with
 | none=>
  dsimp only [Option.isSome,Option.getD] at M;refine Ad func172 ntmps172 rfl rfl (kC (M.out _ _ _ _ Ae) ?_);rintro _ w2 ⟨⟨⟩,Y⟩;have X:=X.ext Y;refine eK ?_;refine xA [_,_,_] ?_;intro b4 w5 Z;refine eI [_,_,_] Z ?_;intro w7 _ x9 _ _;have X:=X.ext x9;refine kR ?_;exact ⟨rfl,X⟩
 | some v=>
  obtain ⟨vn,vk,vl⟩:=v;dsimp only [Option.isSome,Option.getD] at M ⊢;refine Ad func172 ntmps172 rfl rfl ?_
  focus
   refine kC (M.out _ _ _ _ Ae) ?_;rintro _ aa ⟨⟨⟩,N⟩;have X:=X.ext N;refine eK ?_;refine xA [_,_,_] ?_;intro ab ac h;refine Dl [_,_,_] Ac rfl rfl rfl rfl rfl rfl h rfl ?_;intro ad h;have O:=h.blk;dsimp only at O;have U:=h.ext;have X:=X.ext U;refine eK ?_;refine BS rfl (λG=>?_) (λG=>?_);refine kR ?_;rotate_left;refine kR ?_;rotate_left
  all_goals exact ⟨by simp [*],X⟩
def Gx (ps:List PD) (s:lB):Int:=match Cg ps s with
 | some i=>(i:Int)
 | none=> -1
def PDs.get (h:PDs S w l a) (G:l≠[]):∃b o,a=some ⟨b,o,none⟩/\S b /\ ∀i p,l[i]? = some p->dX S w b (o+i*6) p:=by
 rcases h with h|⟨b,o,M,N,O⟩
 . exact absurd h G
 . exact ⟨b,o,M,N,λi v U=>O i v U⟩
def Za (p:PD) (M N:oA) (O U h:Nat) (s:lB) (w:wD) (G:Blk w h [str s]):Calls prog 143 #[.agg (p.cells M O N U).toArray,pt h] w λe w'=>e = .returned (.bool (decide (p.name=s)))/\Ext w w':=by
 have X:=Ne w;refine Ad func143 ntmps143 rfl rfl (cS (eB [_,_,_,_,_,_] ?_));intro Y Z h4 V _ _;revert G X;refine eE V ?_;intro G X;refine kR ?_;exact ⟨rfl,X⟩
def IU {α:Type} {f:α->Bool} {l:List α} {j:Nat} (h:j<l.length) (M:(l.take j).findIdx? f=none):(l.take (j+1)).findIdx? f=if f l[j]=true then some j else none:=by
 rw [gS h,kV,M];by_cases G:f l[j]=true
 . simp [G,lj];omega
 . simp [G,lj]
def IV {α:Type} {f:α->Bool} {l:List α} {j i:Nat} (h:(l.take j).findIdx? f=some i):l.findIdx? f=some i:=by
 rw [<-iX j l,kV,h];rfl
def W8 (l:List PD) (hl:l.length<=1000000) (s:lB) (S:nP) (a:oA) (c O:Nat) (w:wD) (G:PDs S w l a) (U:Blk w O [str s]) :
 Calls prog 142 #[.slice a l.length c,.func (.func 143) #[] #[pt O]] w λe w'=>e = .returned (.int .i64 (Gx l s))/\Ext w w':=by
 have X:=Ne w;have G:=G.ltA;refine Ad func142 ntmps142 rfl rfl (cS (C1 Pa (cT (Aj (cS (C1 Mv (C1 Pz (C1 Mv (cT ?_)))))))));refine Au ?_;refine AQ (ι:=Nat) (λj=>[(0,.slice a l.length c),(1,.func (.func 143) #[] #[pt O]),(6,.slice a l.length c),(7,.int .i64 l.length),(8,.int .i64 j)])
  (λj w'=>j<=l.length/\PDs (· < w.heap.size) w' l a/\Blk w' O [str s]/\Ext w w'/\(l.take j).findIdx? (λp=>decide (p.name=s))=none)
  (λj=>l.length-j) 0 sB ⟨ii _,G,U,X,rfl⟩ ?_
 rintro j w1 ⟨hj,G,U,X,M⟩;by_cases N:j<l.length
 . obtain ⟨kb,ko,rfl,kS,V⟩:=G.get (by intro e;subst e;simp at N);obtain ⟨pa,pc,ba,bc,ry,-,-⟩:=V j l[j] (gN N);have Y:=IU N M;have Z:l[j].name=s->Gx l s=j:=λh=>by
    rw [AH (by simpa using h)] at Y;rw [Gx,Cg,IV Y]
   generalize l[j]=y at *
   focus
    refine eK ?_;refine Ax (A8 (fi:=[]) (ca:=[pt O]) AU rfl rfl (Za y pa ba pc bc _ s _ Ae) (λ_ _ h=>⟨_,h.1⟩)) rfl ?_ aFh;rintro _ ac ⟨⟨⟩,aa⟩;revert U X G;refine eE aa ?_;intro U X G;refine cT (Ay rfl (λab=>?_) (λab=>?_));refine kR ?_;rotate_left;refine Ao (Ah (Ai (Al (C1 V7 (C1 Mv (Ak ?_))))));rotate_left
   . exact ⟨by rw [Z Ae],X⟩
   . exact AA (j+1) sB ⟨Ab,G,U,X,Y.trans (At (by simpa using Ae))⟩ Ab
 . obtain rfl:j=l.length:=by omega
   rw [im] at M;have he:Gx l s = -1:=by rw [Gx,Cg,M]
   rw [he];refine kR ?_;exact ⟨rfl,X⟩
def PI (g:PG) (U:g.procs.length<=1000000) (s:lB) (S:nP) (V:oA) (vc:Nat) (N:oA) (Y:Nat) (Z:oA) (mc:Nat) (w:wD) (h:PDs S w g.procs N) :
 Calls prog 106 #[.agg (g.cells V vc N Y Z mc).toArray,str s] w λe w'=>e = .returned (.int .i64 (Gx g.procs s))/\Ext w w':=by
 have X:=Ne w;have h:=h.ltA;refine Ad func106 ntmps106 rfl rfl (cS (eB [_,_,_,_,_,_] ?_));intro b1 w2 O x5 _ _;revert X h;refine eE x5 ?_;intro X h;refine eB [_] ?_;intro b8 w9 aa G _ _;revert O X h;refine eE G ?_;intro O X h;refine eK ?_;refine C1 (B6 rfl) (cC rfl (W8 _ U s _ _ _ _ _ Ae Ae) ?_);rintro _ ab ⟨⟨⟩,M⟩;have X:=X.ext M;refine kR ?_;exact ⟨rfl,X⟩
def Zb (a:oA) (n c:Nat) (w:wD) (h:n<=c) (G:n<=1000000):Calls prog 173 #[.slice a n c] w λe w'=>e = .returned (.slice a n n)/\w=w':=by
 refine Ad func173 ntmps173 rfl rfl (eK ?_);refine C1 (QU Ac rfl rfl rfl rfl rfl h) (kR ?_);exact ⟨rfl,rfl⟩
def LT (a:oA) (n c:Nat) (w:wD) (h:n<=c) (G:n<=1000000):Calls prog 174 #[.slice a n c] w λe w'=>e = .returned (.slice a n n)/\w=w':=by
 refine Ad func174 ntmps174 rfl rfl (eK ?_);refine C1 (QU Ac rfl rfl rfl rfl rfl h) (kR ?_);exact ⟨rfl,rfl⟩
def PathAt (S:nP) (w:wD) (a:oA) (n c:Nat):Prop:=(n<=c/\(a=none->c=0)) /\ ∃cs:lV,cs.length=n*1/\cs.all mq=true/\Rows S w cs a
def PathAt.nil:PathAt S w none 0 0:=⟨⟨ip _,λ_=>rfl⟩,[],rfl,rfl,gP rfl⟩
def PathAt.ext {S:nP} {w w':wD} {a:oA} {n c:Nat} (h:PathAt S w a n c) (x:Ext w w'):PathAt S w' a n c:=⟨h.1,by obtain ⟨cs,G,M,N⟩:=h.2;exact ⟨cs,G,M,N.ext x⟩⟩
instance {c:Nat}:LfE w w' (PathAt S w a n c) (PathAt S w' a n c):=⟨λx h=>Bk.PathAt.ext h x⟩
def PathAt.fr {S T:nP} {w w':wD} {a:oA} {n c:Nat} (h:PathAt S w a n c) (x:Fr T w w') (G:∀b,S b -> ¬T b):PathAt S w' a n c:=⟨h.1,by obtain ⟨cs,M,N,O⟩:=h.2;exact ⟨cs,M,N,O.fr x G⟩⟩
instance {T:nP} {c:Nat}:LfF T w w' (PathAt S w a n c) (∀b,S b -> ¬T b) (PathAt S w' a n c):=⟨λx s h=>Bk.PathAt.fr h x s⟩
def PathAt.clone {c:Nat} (h:PathAt S w a n c) (V:n<=1000000):Calls prog 88 #[.slice a n c] w (SliceR n w):=by
 obtain ⟨⟨X,G⟩,cs,M,N,O⟩:=h;cases a with
 | some p=>exact Lj cs n M N Ab S p c w O
 | none=>
  have U:=G rfl;subst U;obtain rfl:n=0:=by omega
  exact Lk w
def ChildR (n:Nat) (w:wD):Ending->wD->Prop:=λe w'=> ∃g c,e = .returned (.slice (some ⟨g,0,none⟩) (n+1) c)/\PathAt (λb=>w.heap.size<=b/\b<w'.heap.size) w' (some ⟨g,0,none⟩) (n+1) c/\Ext w w'
def ChildR.ret {e:Ending} (h:ChildR n w e w'):∃v,e = .returned v:=by
 obtain ⟨_,_,h,-⟩:=h;exact ⟨_,h⟩
def Ua (i:Int) (S:nP) (a:oA) (n c:Nat) (w:wD) (V:n<=1000000) (Y:PathAt S w a n c):Calls prog 145 #[.slice a n c,.int .i64 i] w (ChildR n w):=by
 have X:=Ne w;obtain ⟨⟨Z,-⟩,cs,U,h2,h⟩:=Y;have h:=h.ltA;refine Ad func145 ntmps145 rfl rfl (kC (Zb _ _ _ _ Z V) ?_);rintro _ w1 ⟨⟨⟩,rfl⟩;refine C1 Mv (Ax (xS [_]) rfl ?_ aFh);rintro _ w3 ⟨b2,rfl,G,t5⟩;have h6:=G.blk;have x7:=G.ext;have p8:=G.pos;have z9:=G.size;revert X h;refine eE x7 ?_;intro X h;refine Ax (C5 Ac CJ rfl rfl rfl rfl AU rfl rfl rfl Ae U (mi Ae) rfl rfl Ab) rfl ?_ aFh;rintro _ aa ⟨ab,M,rfl,N,ac,ad,ae,O⟩;have X:=X.ext O;refine kR ?_;exact ⟨_,_,rfl,⟨⟨N,λe=>by cases e⟩,cs++[.int .i64 i],by simp [U],by rw [ly,h2];rfl,gQ ⟨_,_,rfl,⟨Ab,Ab⟩,Ae⟩⟩,X⟩
def InnerR (S:nP) (L:List VD) (w:wD):Ending->wD->Prop:=λe w'=> ∃a c,e = .returned (.slice a L.length c)/\L.length<=c/\VDs (λb=>S b\/(w.heap.size<=b/\b<w'.heap.size)) w' L a/\Ext w w'
def InnerR.ret {L:List VD} {e:Ending} (h:InnerR S L w e w'):∃v,e = .returned v:=by
 obtain ⟨_,_,h,-⟩:=h;exact ⟨_,h⟩
def My {l:List VD} {v:VD} {g c:Nat} (h:l.length+1<=c) (G:Row w' ⟨g,0,none⟩ (l.flatMap VD.cells++v.cells)) (M:w.heap.size<=g) (N:g<w'.heap.size) (X:Ext w w'):InnerR S (l++[v]) w (.returned (.slice (some ⟨g,0,none⟩) (l.length+1) c)) w':=by
 refine ⟨some ⟨g,0,none⟩,c,AK,by simpa using h,Mu (gQ ⟨g,0,rfl,gQ ⟨M,N⟩,?_⟩),X⟩;rw [jL];simpa using G
def Zc (k n:Int) (s:lB) (kl:List Nd) (ka:oA) (kc i:Nat) (l:List VD) (hl:l.length<=1000000) (S:nP) (a:oA) (c:Nat) (w:wD) (hc:l.length<=c) (hs:VDs S w l a) :
 Calls prog 147 #[(Nd.mk k n s kl).val ka kc,.int .i64 i,.slice a l.length c] w (InnerR S (C2 k s i l) w):=by
 have X:=Ne w;have h1:=Hl Pr l;have hs:=QI hs;have N:=hs.ltA;show Calls prog 147 #[.agg #[.int .u8 k,.int .i64 n,str s,.slice ka kl.length kc],.int .i64 i,.slice a l.length c] w (InnerR S (C2 k s i l) w);by_cases V:k=54/\i=1
 . have hv:C2 k s i l=l++[⟨s,1,0⟩]:=by unfold C2;rw [AH V]
   rw [hv];obtain ⟨rfl,rfl⟩:=V;refine Ad func147 ntmps147 rfl rfl ?_
   focus
    refine cS (eB [_,_,_,_] ?_);intro b1 w2 h4 x5 p6 z7;revert X N;refine eE x5 ?_;intro X N;refine eK ?_;refine Aq (λwz=>Ext w2 wz) 6 (.pure 0 (.pure 2 (.pure 3 (.pure 4 (.fork 1 (.fork 5 .tail .none) (.fork 5 (.fork 1 .tail .none) .none)))))) mixed AU (Aa (Af (Aa Ag))) ?_;intro w8 x9 _;have M:(λwz=>Ext w2 wz) w8:=x9;simp only at M;have ay:=h4;revert X N;refine eY x9 ?_;intro bq X N;refine ⟨M,?_⟩;refine eT ?_;refine Tq rfl (xB [_,_,_]) ?_;refine AE rfl (AN AU rfl (LT _ _ _ _ hc hl) (λ_ _ h=>⟨_,h.1⟩)) rfl ?_ aFh ?kr12;rintro _ br ⟨⟨⟩,rfl⟩;refine ⟨M,?_⟩;refine AE rfl (xS [_,_,_]) rfl ?_ aFh AC;rintro _ bs ⟨bt,rfl,Y,bu⟩;have bv:=Y.blk;have al:=Y.ext;have bw:=Y.pos;have z22:=Y.size;revert M X N;refine eE al ?_;intro M X N;refine ⟨M,?_⟩;refine Ar rfl ?_;refine Ax (C5 Ac CJ rfl rfl rfl rfl AU rfl rfl rfl Ae h1 (mi Ae) rfl rfl Ab) rfl ?_ aFh;rintro _ bx ⟨bz,aj,rfl,b0,b2,b3,b4,am⟩;have X:=X.ext am;refine kR ?_;rotate_left;refine AE rfl (xS [_,_,_]) rfl ?_ aFh AC;rintro _ b5 ⟨b6,rfl,Z,b7⟩;have b8:=Z.blk;have an:=Z.ext;have b9:=Z.pos;have ca:=Z.size;revert M X N;refine eE an ?_;intro M X N;refine ⟨M,?_⟩;refine tC rfl rfl (LT _ _ _ _ hc hl) ?_;rintro _ cb ⟨⟨⟩,rfl⟩;refine ⟨M,?_⟩;refine Ar rfl ?_;refine Ax (C5 Ac CJ rfl rfl rfl rfl AU rfl rfl rfl Ae h1 (mi Ae) rfl rfl Ab) rfl ?_ aFh;rintro _ cc ⟨cd,ak,rfl,ce,cf,cg,ch,ao⟩;have X:=X.ext ao;refine kR ?_;rotate_left
   all_goals exact My (v:=⟨s,1,0⟩) Ae Ae Ab Ae X
 by_cases aa:k=55/\i=0
 . have hv:C2 k s i l=l++[⟨s,3,0⟩]:=by unfold C2;rw [At V,AH aa]
   rw [hv];obtain ⟨rfl,rfl⟩:=aa;refine Ad func147 ntmps147 rfl rfl ?_
   focus
    refine cS (eB [_,_,_,_] ?_);intro ci ab ap aq cj ck;revert X N;refine eE aq ?_;intro X N;refine eK ?_;refine Aq (λwz=>Ext ab wz) 6 (.pure 0 (.pure 2 (.pure 3 (.pure 4 (.fork 1 (.fork 5 .tail .none) (.fork 5 (.fork 1 .tail .none) .none)))))) mixed AU (Aa (Af (Aa Ag))) ?_;intro ar ac _;have G:(λwz=>Ext ab wz) ar:=ac;simp only at G;have au:=ap;revert X N;refine eY ac ?_;intro az X N;refine ⟨G,?_⟩;refine eT ?_;refine Tq rfl (xB [_,_,_]) ?_;refine AE rfl (AN AU rfl (LT _ _ _ _ hc hl) (λ_ _ h=>⟨_,h.1⟩)) rfl ?_ aFh ?kra12;rintro _ a0 ⟨⟨⟩,rfl⟩;refine ⟨G,?_⟩;refine AE rfl (xS [_,_,_]) rfl ?_ aFh AC;rintro _ a1 ⟨a2,rfl,O,a3⟩;have a4:=O.blk;have ad:=O.ext;have a5:=O.pos;have a6:=O.size;revert G X N;refine eE ad ?_;intro G X N;refine ⟨G,?_⟩;refine Ar rfl ?_;refine Ax (C5 Ac CJ rfl rfl rfl rfl AU rfl rfl rfl Ae h1 (mi Ae) rfl rfl Ab) rfl ?_ aFh;rintro _ a7 ⟨a8,ae,rfl,a9,ba,bb,bc,af⟩;have X:=X.ext af;refine kR ?_;rotate_left;refine AE rfl (xS [_,_,_]) rfl ?_ aFh AC;rintro _ bd ⟨be,rfl,U,bf⟩;have bg:=U.blk;have ag:=U.ext;have bh:=U.pos;have bi:=U.size;revert G X N;refine eE ag ?_;intro G X N;refine ⟨G,?_⟩;refine tC rfl rfl (LT _ _ _ _ hc hl) ?_;rintro _ bj ⟨⟨⟩,rfl⟩;refine ⟨G,?_⟩;refine Ar rfl ?_;refine Ax (C5 Ac CJ rfl rfl rfl rfl AU rfl rfl rfl Ae h1 (mi Ae) rfl rfl Ab) rfl ?_ aFh;rintro _ bk ⟨bl,ah,rfl,bm,bn,bo,bp,ai⟩;have X:=X.ext ai;refine kR ?_;rotate_left
   all_goals exact My (v:=⟨s,3,0⟩) Ae Ae Ab Ae X
 . have hv:C2 k s i l=l:=by unfold C2;rw [At V,At aa]
   rw [hv];refine Ad func147 ntmps147 rfl rfl ?_
   focus
    refine cS (eB [_,_,_,_] ?_);intro cl cm cn av _ _;revert X hs;refine eE av ?_;intro X hs;refine eK ?_;refine B0 rfl rfl rfl (λaw=>?_) (λaw=>?_);refine kR ?_;rotate_left;refine eK ?_;refine B0 rfl rfl rfl (λax=>?_) (λax=>?_);refine kR ?_;rotate_left;refine kR ?_;rotate_left
   all_goals exact ⟨_,_,rfl,hc,(Mu Ae).wide (λ_ h=>gP h),X⟩
def Q0 {ps:List PD} {i:Nat} (h:Cg ps s=some i):i<ps.length:=by
 unfold Cg at h;obtain ⟨G,-⟩:=List.findIdx?_eq_some_iff_getElem.1 h;exact G
set_option maxHeartbeats 8000000 in
def Zd (g:PG) (hg:g.procs.length<=1000000) (k n:Int) (s:lB) (l:List Nd) (ka:oA) (kc:Nat) (v:List VD) (hv:v.length<=1000000) (S S':nP) (va:oA) (vc:Nat) (pa:oA) (pc:Nat) (ma:oA) (mc:Nat) (a:oA) (c:Nat) (w:wD) (G:PDs S w g.procs pa) (hs:VDs S' w v a) :
 Calls prog 144 #[.agg (g.cells va vc pa pc ma mc).toArray,(Nd.mk k n s l).val ka kc,.slice a v.length c] w λe w'=>e = .returned (.int .i64 (CE g.procs v k s l.length))/\Ext w w':=by
 have X:=Ne w;have G:=G.ltA;have HU:=gO (eH v hv s);have HF:=gO (PH v hv s);have HP:=gO (PI g hg s);show Calls prog 144 #[.agg (g.cells va vc pa pc ma mc).toArray,.agg #[.int .u8 k,.int .i64 n,str s,.slice ka l.length kc],.slice a v.length c] w _;refine Ad func144 ntmps144 rfl rfl ?_
 focus
  refine cS (eB [_,_,_,_,_,_] ?_);intro b1 w2 Y x5 _ _;revert hs X G;refine eE x5 ?_;intro hs X G;refine eB [_,_,_,_] ?_;intro b8 w9 V ac _ az;revert Y hs X G;refine eE ac ?_;intro Y hs X G;refine eK ?_;refine Ay rfl (λad=>?_) (λad=>?_);rotate_left;rotate_left
 . have N:CE g.procs v k s l.length=Ek v s 1:=by unfold CE;rw [AH Ab]
   rw [N];refine kC (HU.out _ _ _ _ _ Ae) ?_;rintro _ a0 ⟨⟨⟩,ae⟩;have X:=X.ext ae;refine kR ?_;exact ⟨rfl,X⟩
 focus
  refine eK ?_;refine Ay rfl (λaf=>?_) (λaf=>?_);rotate_left;refine Aj ?_;rotate_left
 . have N:CE g.procs v k s l.length=Ek v s 2:=by unfold CE;rw [At Ab,AH Ab]
   rw [N];refine kC (HU.out _ _ _ _ _ Ae) ?_;rintro _ a1 ⟨⟨⟩,ag⟩;have X:=X.ext ag;refine kR ?_;exact ⟨rfl,X⟩
 refine DD (ι:=Unit) (λ_=>[(2,.slice a v.length c),(3,pt b1),(4,pt b8),(9,.int .u8 k),(22,.bool (decide (k=4\/k=5\/k=44\/k=45)))]) (λ_ w'=>w'=w9) ?_ ?_
 . focus
    refine eK ?_;refine Ay rfl (λah=>?_) (λah=>?_);refine Ao ?_;rotate_left;refine eK ?_;refine Ay rfl (λai=>?_) (λai=>?_);refine Ao ?_;rotate_left;refine eK ?_;refine Ay rfl (λaj=>?_) (λaj=>?_);refine Ao ?_;rotate_left;refine eK ?_;rotate_left
   all_goals exact BY () (An rfl (An rfl (An rfl (An rfl (B4 rfl (congrArg Value.bool (decide_eq_decide.2 Ab)) BK))))) rfl
 rintro-u1 h;subst h
 focus
  refine Ay rfl (λak=>?_) (λak=>?_);rotate_left;refine Aj ?_;rotate_left
 . have N:CE g.procs v k s l.length=Ek v s 3:=by unfold CE;rw [At Ab,At Ab,AH Ab]
   rw [N];refine kC (HU.out _ _ _ _ _ Ae) ?_;rintro _ a2 ⟨⟨⟩,al⟩;have X:=X.ext al;refine kR ?_;exact ⟨rfl,X⟩
 refine DD (ι:=Unit) (λ_=>[(2,.slice a v.length c),(3,pt b1),(4,pt b8),(9,.int .u8 k),(31,.bool (decide (k=54\/k=55)))]) (λ_ w'=>w'=u1) ?_ ?_
 . focus
    refine eK ?_;refine Ay rfl (λam=>?_) (λam=>?_);refine Ao ?_;rotate_left;refine eK ?_;rotate_left
   all_goals exact BY () (An rfl (An rfl (An rfl (An rfl (B4 rfl (congrArg Value.bool (decide_eq_decide.2 Ab)) BK))))) rfl
 rintro-u2 h;subst h
 focus
  refine Ay rfl (λan=>?_) (λan=>?_);rotate_left;refine Aj ?_;rotate_left
 . have N:CE g.procs v k s l.length=Fd v s:=by unfold CE;rw [At Ab,At Ab,At Ab,AH Ab]
   rw [N];refine kC (HF.out _ _ _ _ Ae) ?_;rintro _ a3 ⟨⟨⟩,ao⟩;have X:=X.ext ao;refine kR ?_;exact ⟨rfl,X⟩
 refine DD (ι:=Unit) (λ_=>[(2,.slice a v.length c),(3,pt b1),(4,pt b8),(9,.int .u8 k),(38,.bool (decide (k=50\/k=51)))]) (λ_ w'=>w'=u2) ?_ ?_
 . focus
    refine eK ?_;refine Ay rfl (λap=>?_) (λap=>?_);refine Ao ?_;rotate_left;refine eK ?_;rotate_left
   all_goals exact BY () (An rfl (An rfl (An rfl (An rfl (B4 rfl (congrArg Value.bool (decide_eq_decide.2 Ab)) BK))))) rfl
 rintro-u3 h;subst h
 focus
  refine Ay rfl (λaq=>?_) (λaq=>?_);rotate_left;refine kR ?_;rotate_left
 . have N:CE g.procs v k s l.length=Qi g.procs s l.length:=by unfold CE;rw [At Ab,At Ab,At Ab,At Ab,AH Ab]
   rw [N];unfold Qi;have M:=gO (HP.out (· < w.heap.size) va vc pa pc ma mc);unfold Gx at M;cases hq:Cg g.procs s with
   | none=>
    rw [hq] at M;dsimp only at M;refine kC (M.out _ Ae) ?_;rintro _ a4 ⟨⟨⟩,ar⟩;have X:=X.ext ar;refine kR ?_;exact ⟨rfl,X⟩
   | some i=>
    rw [hq] at M;dsimp only at M;have hi:=Q0 hq;obtain ⟨kb,ko,rfl,kS,O⟩:=G.get (by intro e;rw [e] at hi;simp at hi);obtain ⟨qa,qc,ba,bc,r0,-,-⟩:=O i g.procs[i] (gN hi);have hm:((g.procs[i]?.map λp=>p.params.length).getD 0)=g.procs[i].params.length:=by rw [gN hi];rfl
    dsimp only;rw [hm];clear O hm hq;generalize g.procs[i]=y at *
    focus
     refine kC (M.out _ Ae) ?_;rintro _ Z ⟨⟨⟩,au⟩;revert V X Y r0;refine eE au ?_;intro V X Y r0;refine eK ?_;refine Aq (λwz=>Ext Z wz) 10 (.pure 0 (.pure 1 (.pure 2 (.pure 3 (.pure 4 (.pure 5 (.pure 6 (.pure 7 (.pure 8 (.pure 9 .tail)))))))))) mixed AU (Aa (Af (Aa Ag))) ?_;intro av aa _;have U:(λwz=>Ext Z wz) av:=aa;simp only at U;have aw:=V;have ay:=Y;have ab:=r0;have X:=X.ext aa;refine ⟨U,?_⟩;refine eT ?_;refine Tq rfl (Dr ab) (Tq rfl Pz ?_);refine Ar rfl ?_;refine eK ?_;refine BS rfl (λax=>?_) (λax=>?_);refine kR ?_;rotate_left;refine kR ?_;rotate_left
    . rw [At Ab];exact ⟨rfl,X⟩
    . rw [AH Ab];exact ⟨rfl,X⟩
 . have N:CE g.procs v k s l.length=0:=by unfold CE;rw [At Ab,At Ab,At Ab,At Ab,At Ab]
   rw [N];exact ⟨rfl,X⟩
set_option maxHeartbeats 8000000 in
def Q1 (g:PG) (hg:g.procs.length<=1000000) (k n:Int) (s:lB) (l:List Nd) (hl:l.length<=1000000) (i:Nat) (hi:i<l.length) (v:List VD) (hv:v.length<=1000000) (S S' bo:nP) (va:oA) (vc:Nat) (pa:oA) (pc:Nat) (ma:oA) (mc:Nat) (ka:oA) (kc:Nat) (a:oA) (c:Nat) (w:wD) (h:PDs S w g.procs pa) (al:rowSits bo w l ka) (M:VDs S' w v a) :
 Calls prog 146 #[.agg (g.cells va vc pa pc ma mc).toArray,(Nd.mk k n s l).val ka kc,.int .i64 i,.slice a v.length c] w λe w'=>e = .returned (.int .i64 (Qj g.procs v s l.length i (l[i]'hi).name))/\Ext w w':=by
 have X:=Ne w;have h:=h.ltA;have al:=Ci _ _ al;obtain ⟨xb,xo,rfl,xS,ap⟩:=BG al (by intro e;subst e;simp at hi);obtain ⟨xa,xc,G,-⟩:=ap i l[i] (gN hi);clear ap al;have HF:=gO (PF v hv (l[i]).name);have HP:=gO (PI g hg s (· < w.heap.size) va vc pa pc ma mc);unfold Gx at HP;unfold Qj;generalize l[i]=x at *;show Calls prog 146 #[.agg (g.cells va vc pa pc ma mc).toArray,.agg #[.int .u8 k,.int .i64 n,str s,.slice (some ⟨xb,xo,none⟩) l.length kc],.int .i64 i,.slice a v.length c] w _;generalize Ea v x.name=o at *;cases o with
 | none=>
  dsimp only [Option.isSome,Option.getD] at HF;refine Ad func146 ntmps146 rfl rfl ?_;refine cS (eB [_,_,_,_,_,_] ?_);intro b1 w2 h4 x5 _ _;revert M X h G;refine eE x5 ?_;intro M X h G;refine eB [_,_,_,_] ?_;intro b8 w9 am bp _ _;revert h4 M X h G;refine eE bp ?_;intro h4 M X h G;refine eK ?_;refine C1 (Pw G) (cC rfl (HF.out _ _ _ _ Ae) ?_);rintro _ cf ⟨⟨⟩,bq⟩;revert am h4 M X h G;refine eE bq ?_;intro am h4 M X h G;refine eK ?_;refine xA [_,_,_] ?_;intro cg ch br;refine eI [_,_,_] br ?_;intro ci cj bs _ _;revert am h4 M X h G;refine eE bs ?_;intro am h4 M X h G;refine kR ?_;exact ⟨rfl,X⟩
 | some d=>
  obtain ⟨dn,dk,dl⟩:=d;dsimp only [Option.isSome,Option.getD] at HF ⊢;cases hq:Cg g.procs s with
  | none=>
   rw [hq] at HP;dsimp only [Option.bind] at HP ⊢;refine Ad func146 ntmps146 rfl rfl ?_;refine cS (eB [_,_,_,_,_,_] ?_);intro ck cl ab bt _ _;revert M X h G;refine eE bt ?_;intro M X h G;refine eB [_,_,_,_] ?_;intro cm cn Y a2 _ _;revert ab M X h G;refine eE a2 ?_;intro ab M X h G;refine eK ?_;refine C1 (Pw G) (cC rfl (HF.out _ _ _ _ Ae) ?_);rintro _ bw ⟨⟨⟩,a3⟩;revert Y ab M X h G;refine eE a3 ?_;intro Y ab M X h G;refine eK ?_;refine xA [_,_,_] ?_;intro bx bz ae;refine Dl [_,_,_] Ac rfl rfl rfl rfl rfl rfl ae rfl ?_;intro b0 ae;have ac:=ae.blk;dsimp only at ac;have a4:=ae.ext;revert Y ab M X h G;refine eE a4 ?_;intro Y ab M X h G;refine kC (HP.out _ Ae) ?_;rintro _ aq ⟨⟨⟩,a5⟩;revert ac Y ab M X h G;refine eE a5 ?_;intro ac Y ab M X h G;refine eK ?_;refine Aq (λwz=>Ext aq wz) 13 (.pure 0 (.pure 1 (.pure 2 (.pure 3 (.pure 4 (.pure 5 (.pure 6 (.pure 7 (.pure 8 (.pure 9 (.pure 10 (.pure 11 (.pure 12 .tail))))))))))))) mixed AU (Aa (Aa Ag)) ?_;intro a6 ar _;have ah:(λwz=>Ext aq wz) a6:=ar;simp only at ah;revert ac Y ab M X h G;refine eE ar ?_;intro ac Y ab M X h G;refine ⟨ah,?_⟩;refine Tq rfl Mv (Tq rfl V3 (Tq rfl Mv (eM rfl (eM rfl (eM rfl (eM rfl (eM rfl (eM rfl (eM rfl (eM rfl (eM rfl ?_)))))))))))
   refine eM rfl ?_;refine Ar rfl ?_;refine kR ?_;exact ⟨rfl,X⟩
  | some j=>
   rw [hq] at HP;have hj:=Q0 hq;dsimp only [Option.bind] at HP ⊢;rw [gN hj];dsimp only;obtain ⟨kb,ko,rfl,kS,au⟩:=h.get (by intro e;rw [e] at hj;simp at hj);obtain ⟨qa,qc,ba,bc,O,az,-⟩:=au j g.procs[j] (gN hj);clear au hq;generalize g.procs[j]=y at *;by_cases hm:l.length=y.params.length
   . rw [At Ab];obtain ⟨zb,zo,rfl,zS,a7⟩:=az.get (by intro e;rw [e] at hm;simp only [iG] at hm;omega);have r1:=a7 i (y.params[i]'(by omega)) (gN Ab);rw [gN Ab];dsimp only;clear a7 az;generalize y.params[i]'(by omega)=q at *;obtain ⟨qn,qk,ql⟩:=q;replace r1:Row w ⟨zb,zo+i*3,none⟩ [str qn,.int .u8 qk,.int .i64 ql]:=r1;dsimp only;refine Ad func146 ntmps146 rfl rfl ?_
     focus
      refine cS (eB [_,_,_,_,_,_] ?_);intro co cp V bu _ _;revert M X G h O r1;refine eE bu ?_;intro M X G h O r1;refine eB [_,_,_,_] ?_;intro cq cr N a8 _ _;revert V M X G h O r1;refine eE a8 ?_;intro V M X G h O r1;refine eK ?_;refine C1 (Pw G) (cC rfl (HF.out _ _ _ _ Ae) ?_);rintro _ b2 ⟨⟨⟩,a9⟩;revert N V M X G h O r1;refine eE a9 ?_;intro N V M X G h O r1;refine eK ?_;refine xA [_,_,_] ?_;intro b3 b4 af;refine Dl [_,_,_] Ac rfl rfl rfl rfl rfl rfl af rfl ?_;intro b5 af;have Z:=af.blk;dsimp only at Z;have bb:=af.ext;revert N V M X G h O r1;refine eE bb ?_;intro N V M X G h O r1;refine kC (HP.out _ Ae) ?_;rintro _ av ⟨⟨⟩,bd⟩;revert Z N V M X G h O r1;refine eE bd ?_;intro Z N V M X G h O r1;refine eK ?_;refine Aq (λwz=>Ext av wz) 13 (.pure 0 (.pure 1 (.pure 2 (.pure 3 (.pure 4 (.pure 5 (.pure 6 (.pure 7 (.pure 8 (.pure 9 (.pure 10 (.pure 11 (.pure 12 .tail))))))))))))) mixed AU (Aa (Aa Ag)) ?_;intro be aw _;have ai:(λwz=>Ext av wz) be:=aw;simp only at ai;have an:=N;have a0:=V;have aj:=O;revert Z N V M X G h O r1;refine eE aw ?_;intro Z N V M X G h O r1;refine ⟨ai,?_⟩;refine Tq rfl Mv (Tq rfl V3 (Tq rfl Mv (eN rfl (AY Ac rfl rfl rfl) (eN rfl (Ap Ac rfl rfl rfl (λwz hz=>l7 (l9 an hz) rfl)) (eN rfl (DS Ac rfl rfl) (eN rfl (AY Ac rfl rfl rfl) (eN rfl (Ap Ac rfl rfl rfl (λwz hz=>l7 (l9 a0 hz) rfl)) (eN rfl (Av rfl) (eN rfl (AO Ac rfl rfl rfl rfl Ab Ab) (eN rfl (AY Ac rfl rfl rfl) (eN rfl (Ap Ac rfl rfl rfl (λwz hz=>Row.at (l5 aj hz) rfl)) ?_)))))))))));refine eN rfl (DS Ac rfl rfl) ?_;refine Ar rfl ?_;refine eK ?_;refine C1 (Pw O) ?_;refine eK ?_;refine xA [_,_,_] ?_;intro b6 b7 bf;refine eI [_,_,_] bf ?_;intro b9 ca bg _ _;revert Z N V M X G h O r1;refine eE bg ?_;intro Z N V M X G h O r1;refine eK ?_;refine B0 rfl rfl rfl (λbh=>?_) (λbh=>?_)
      refine kR ?_;rotate_left;refine eK ?_;refine BS rfl (λbi=>?_) (λbi=>?_);refine kR ?_;rotate_left;refine kR ?_;rotate_left
     all_goals exact ⟨by simp [*],X⟩
   . rw [AH Ab];clear az;refine Ad func146 ntmps146 rfl rfl ?_;refine cS (eB [_,_,_,_,_,_] ?_);intro ct cu aa bv _ _;revert M X G h O;refine eE bv ?_;intro M X G h O;refine eB [_,_,_,_] ?_;intro cv cw U bj _ _;revert aa M X G h O;refine eE bj ?_;intro aa M X G h O;refine eK ?_;refine C1 (Pw G) (cC rfl (HF.out _ _ _ _ Ae) ?_);rintro _ cb ⟨⟨⟩,bk⟩;revert U aa M X G h O;refine eE bk ?_;intro U aa M X G h O;refine eK ?_;refine xA [_,_,_] ?_;intro cc cd ag;refine Dl [_,_,_] Ac rfl rfl rfl rfl rfl rfl ag rfl ?_;intro ce ag;have ad:=ag.blk;dsimp only at ad;have bl:=ag.ext;revert U aa M X G h O;refine eE bl ?_;intro U aa M X G h O;refine kC (HP.out _ Ae) ?_;rintro _ ax ⟨⟨⟩,bm⟩;revert ad U aa M X G h O;refine eE bm ?_;intro ad U aa M X G h O;refine eK ?_;refine Aq (λwz=>Ext ax wz) 13 (.pure 0 (.pure 1 (.pure 2 (.pure 3 (.pure 4 (.pure 5 (.pure 6 (.pure 7 (.pure 8 (.pure 9 (.pure 10 (.pure 11 (.pure 12 .tail))))))))))))) mixed AU (Aa (Aa Ag)) ?_;intro bn ay _;have ak:(λwz=>Ext ax wz) bn:=ay;simp only at ak;have ao:=U;have a1:=aa;have aj:=O;revert ad U aa M X G h O;refine eE ay ?_;intro ad U aa M X G h O;refine ⟨ak,?_⟩;refine Tq rfl Mv (Tq rfl V3 (Tq rfl Mv (eN rfl (AY Ac rfl rfl rfl) (eN rfl (Ap Ac rfl rfl rfl (λwz hz=>l7 (l9 ao hz) rfl)) (eN rfl (DS Ac rfl rfl) (eN rfl (AY Ac rfl rfl rfl) (eN rfl (Ap Ac rfl rfl rfl (λwz hz=>l7 (l9 a1 hz) rfl)) (eN rfl (Av rfl) (eN rfl (AO Ac rfl rfl rfl rfl Ab Ab) (eN rfl (AY Ac rfl rfl rfl) (eN rfl (Ap Ac rfl rfl rfl (λwz hz=>Row.at (l5 aj hz) rfl)) ?_)))))))))));refine eN rfl (DS Ac rfl rfl) ?_;refine Ar rfl ?_;refine kR ?_
     all_goals exact ⟨rfl,X⟩
structure FS (c fb m:Nat) (w:wD) (v:Value):Prop where
 cell:Blk w fb [v]
 own:OwnQ (Hs 4) w (λ_=>False) c 165 v (iL m ())
 ne:v.ownBlock≠some fb
 le:c<=w.heap.size
structure Eff (fb:Nat) (w:wD) (v:Value) (w':wD) (v':Value):Prop where
 fr:Fr (λk=>k=fb\/v.ownBlock=some k) w w'
 new:∀g,v'.ownBlock=some g->v.ownBlock=some g\/w.heap.size<=g
def Eff.of_ext (x:Ext w w'):Eff G w v w' v:=⟨⟨x.os,x.tape,x.output,x.size,λ_ M _=>x.block M⟩,λ_ h=>gP h⟩
def Eff.trans {G:Nat} {w w1 N:wD} {v O U:Value} (h:Eff G w v w1 O) (k:Eff G w1 O N U):Eff G w v N U:=by
 have X:=h.fr.size;refine ⟨⟨k.fr.os.trans h.fr.os,k.fr.tape.trans h.fr.tape,k.fr.output.trans h.fr.output,jg X k.fr.size,λi Y M=>?_⟩,λg Z=>?_⟩
 . refine (k.fr.block i Ab (λe=>?_)).trans (h.fr.block i Y M);rcases e with e|e
   . exact M (gP e)
   . rcases h.new i e with e|e
     . exact M (gQ e)
     . omega
 . rcases k.new g Z with V|V
   . exact h.new g V
   . exact gQ Ab
def Kp (fb:Nat) (w:wD) (v:Value) (b:Nat):Prop:=b<w.heap.size/\b≠fb/\v.ownBlock≠some b
def Kp.eff {M:Value} {b:Nat} (h:Kp G w v b) (k:Eff G w v w' M):Kp G w' M b:=by
 have:=k.fr.size;refine ⟨by have:=h.1;omega,h.2.1,λe=>?_⟩;rcases k.new b e with e|e
 . exact h.2.2 e
 . have:=h.1;omega
def Kp.grow {b:Nat} (h:Kp G w v b) (M:w.heap.size<=w'.heap.size):Kp G w' v b:=⟨js h.1 M,h.2⟩
def Kp.not {b:Nat} (h:Kp G w v b):¬(b=G\/v.ownBlock=some b):=λe=>e.elim h.2.1 h.2.2
def FS.ext {c G m:Nat} {w w':wD} {v:Value} (h:FS c G m w v) (x:Ext w w'):FS c G m w' v:=⟨h.cell.ext x,h.own.ext x,h.ne,jg h.le x.size⟩
instance {c m:Nat}:LfE w w' (FS c G m w v) (FS c G m w' v):=⟨λx h=>Bk.FS.ext h x⟩
def FS.fr {c G m:Nat} {S:nP} {w w':wD} {v:Value} (h:FS c G m w v) (x:Fr S w w') (M:∀k,S k->k≠G/\v.ownBlock≠some k):FS c G m w' v:=⟨h.cell.fr x (λe=>(M _ e).1 rfl),h.own.fr x (λk N=>⟨id,(M k N).2⟩),h.ne,jg h.le x.size⟩
instance {c m:Nat}:LfF S w w' (FS c G m w v) (∀k,S k->k≠G/\v.ownBlock≠some k) (FS c G m w' v):=⟨λx s h=>Bk.FS.fr h x s⟩
def RepR (c fb m:Nat) (w:wD) (v:Value):Ending->wD->Prop:=λe w'=>e = .returned (.tuple #[]) /\ ∃v',FS c fb m w' v'/\Fr (λk=>k=fb\/v.ownBlock=some k) w w' /\ ∀g,v'.ownBlock=some g->v.ownBlock=some g\/w.heap.size<=g
def RepR.ret {c m:Nat} {e:Ending} (h:RepR c G m w v e w'):∃v,e = .returned v:=⟨_,h.1⟩
def Hu (c fb m:Nat) (v:Value) (p Y:Int) (s:lB) (S:nP) (pa:oA) (pn pc:Nat) (w:wD) (hm:m<=1000000000) (hn:pn<=1000000) (hp:PathAt S w pa pn pc) (hf:FS c fb m w v) :
 Calls prog 104 #[.int .i64 p,.slice pa pn pc,str s,.int .i64 Y,pt fb] w (RepR c fb (m+O9 Y) w v):=by
 obtain ⟨N,Z,ad,hc⟩:=hf;have HC:=gO (λ(w:wD) (h:PathAt S w pa pn pc)=>h.clone hn);have X:=Ne w;by_cases he:Y=0
 . subst he;have e0:m+O9 0=m:=rfl;rw [e0];refine Ad func104 ntmps104 rfl rfl ?_;refine cS (C1 Mv (C1 V2 (cT (NH (Ao (Bm rfl ?_))))));exact ⟨rfl,v,⟨N,Z,ad,by have:=X.size;omega⟩,(Eff.of_ext X).fr,λ_ h=>gP h⟩
 . have e1:O9 Y=1:=At he;rw [e1];have af:∀g,v.ownBlock=some g->g<w.heap.size/\g≠fb:=λg hg=>⟨Z.lt hg,λe=>ad (e▸hg)⟩
   have a0:=N.lt;have ae:iL m ()++[()]=iL (m+1) ():=by rw [lD]
   have al:(iL m ()).length<=1000000000:=by simp;omega
   have O:=lZ (λk=>k=fb\/v.ownBlock=some k) w;refine Ad func104 ntmps104 rfl rfl ?_;refine eK ?_;refine Aq (λwz=>Ext w wz) 8 (.pure 0 (.pure 1 (.pure 2 (.pure 4 (.pure 5 (.fork 3 (.pure 6 (.fork 7 .tail .none)) .none)))))) mixed AU Ag ?_;intro aj ag _;have G:(λwz=>Ext w wz) aj:=ag;simp only at G;have am:=N;revert hp N Z O;refine eY ag ?_;intro a1 hp N Z O;refine ⟨G,?_⟩;refine eT ?_;refine tC rfl rfl (HC.out _ Ae) ?_;rintro _ a2 ⟨a3,a4,⟨⟩,ak⟩;revert G N Z O;refine eY ak ?_;intro an G N Z O;refine ⟨G,?_⟩;refine Tq rfl (xB [_,_,_,_]) ?_;refine AE rfl (xS [_,_,_,_]) rfl ?_ aFh AC;rintro _ ao ⟨ap,rfl,M,aq⟩;have ar:=M.blk;have ah:=M.ext;have au:=M.pos;have av:=M.size;revert G N Z O;refine eE ah ?_;intro G N Z O;refine ⟨G,?_⟩;refine Ar rfl ?_;refine Ax (GV (R:=λ_=>False) (sh:=Hs 4) (z:=()) Ac CJ rfl rfl rfl rfl AU rfl rfl rfl Ae (λ_ h=>by exact h) (mi Ae) ⟨rfl,rfl⟩ Ab Ab) rfl ?_ aFh;rintro _ aw ⟨U,ai,rfl,aa,V,ax,ab⟩;clear hp;have N:=lY N ab (λh=>by have:=af _ h;omega);clear Z;have O:=l8 O ab (λk hk=>gP (gQ hk));refine eS [_] N ?_;intro ay az ac _;clear N;have aa:=mS aa ac (λk hk=>⟨id,λe=>by (obtain rfl:=gZ (show some U=some k from e);rcases V with h|h;have:=af _ h;omega;omega)⟩);have O:=O.fr ac Ab;refine Ak (Bm rfl ?_)
   have a5:=O.size;refine ⟨rfl,_,⟨Ae,by rw [<-ae];assumption,λe=>?_,Ab⟩,O,λg hg=>?_⟩
   . obtain rfl:=gZ (show some U=some fb from e);rcases V with h|h
     . exact ad h
     . omega
   obtain rfl:=gZ (show some U=some g from hg);rcases V with h|h
   . exact gP h
   . exact gQ Ab
def W9 (c fb:Nat) (rf:FuncId) (ca:lV) (E:wD->Value->Prop):Prop:=
 (∀w v w' v',E w v->Eff fb w v w' v'->E w' v') /\
 ∀(m:Nat) (v:Value) (err:Int) (s:lB) (S:nP) (pa:oA) (pn pc:Nat) (w:wD),m<=1000000000->pn<=1000000->PathAt S w pa pn pc->FS c fb m w v->E w v ->
  Calls prog rf ([.slice pa pn pc,str s,.int .i64 err]++ca).toArray w (RepR c fb (m+O9 err) w v)
def Mz (fb:Nat):Value:=.func (.func 104) #[] #[.pointer (some ⟨fb,0,none⟩)]
def Vk (c G N O:Nat) (i:Int):W9 c G 108 [pt N,pt O] (λw v=>Blk w N [Mz G]/\Blk w O [.int .i64 i]/\Kp G w v N/\Kp G w v O):=by
 refine ⟨λw v w' v' ⟨U,V,h3,X⟩ k=>⟨U.fr k.fr h3.not,V.fr k.fr X.not,h3.eff k,X.eff k⟩,?_⟩;rintro m v M s S Z pn pc w hm hn hp hf ⟨U,V,-,-⟩;have HR:=gO (Hu c G m v i M s S Z pn pc w hm hn hp hf);unfold Mz at U;show Calls prog 108 #[.slice Z pn pc,str s,.int .i64 M,pt N,pt O] w _;have Y:=lZ (λk=>k=G\/v.ownBlock=some k) w;refine Ad func108 ntmps108 rfl rfl (eK ?_);refine Ax (A8 (fi:=[]) (ca:=[pt G]) AU rfl rfl HR.out (λ_ _ h=>h.ret)) rfl ?_ aFh;rintro _ w5 ⟨⟨⟩,aa,V,f3,X⟩;have Y:=l8 Y f3 (λk hk=>gP hk);refine Ak (Bm rfl ?_);exact ⟨rfl,_,Ae,Y,Ae⟩
def Vl (c G N O:Nat) (g:PG) (va:oA) (vc:Nat) (U:oA) (V:Nat) (ma:oA) (mc:Nat):W9 c G 109 [pt N,pt O] (λw v=>Blk w N [Mz G]/\Blk w O (g.cells va vc U V ma mc)/\Kp G w v N/\Kp G w v O):=by
 refine ⟨λw v w' v' ⟨X,Y,h3,Z⟩ k=>⟨X.fr k.fr h3.not,Y.fr k.fr Z.not,h3.eff k,Z.eff k⟩,?_⟩;rintro m v M s S pa pn pc w hm hn hp hf ⟨X,Y,-,-⟩;have HR:=gO (Hu c G m v g.procs.length M s S pa pn pc w hm hn hp hf);unfold Mz at X;show Calls prog 109 #[.slice pa pn pc,str s,.int .i64 M,pt N,pt O] w _;have X2:=lZ (λk=>k=G\/v.ownBlock=some k) w;refine Ad func109 ntmps109 rfl rfl (eK ?_);refine Ax (A8 (fi:=[]) (ca:=[pt G]) AU rfl rfl HR.out (λ_ _ h=>h.ret)) rfl ?_ aFh;rintro _ w5 ⟨⟨⟩,aa,Y,f3,Z⟩;have X2:=l8 X2 f3 (λk hk=>gP hk);refine Ak (Bm rfl ?_);exact ⟨rfl,_,Ae,X2,Ae⟩
def PJ (e:Int):O9 e<=1:=by unfold O9;split<;>omega
def MA (ps:List PD) (v:List VD) (s:lB) (m:Nat):∀(l:List Nd) (i:Nat),FV ps v s m i l<=l.length
 | [],_=>by simp [FV]
 | t::r,i=>by
  have:=PJ (Qj ps v s m i t.name);have:=MA ps v s m r (i+1);simp only [FV,gV];omega
mutual
def SS (ps:List PD):∀(t:Nd) (v:List VD),t.flt ps v<=t.size
 | .mk k n s l,v=>by
  have h1:=PJ (CE ps v k s l.length);have h2:=MA ps v s l.length l 0;have h3:=Cz l;have h4:=KL ps l v k s 0;simp only [Nd.flt,mg];split<;>omega
def KL (ps:List PD):∀(l:List Nd) (v:List VD) (k:Int) (s:lB) (i:Nat),CS ps v k s i l<=AV l
 | [],_,_,_,_=>by simp [CS]
 | t::r,v,k,s,i=>by
  have:=SS ps t (C2 k s i v);have:=KL ps r v k s (i+1);simp only [CS,AV];omega
end
def Lo (ps:List PD) (v:List VD) (k:Int) (s:lB):∀(l:List Nd) (j i:Nat) (h:j<l.length),CS ps v k s i (l.take (j+1))=CS ps v k s i (l.take j)+(l[j]).flt ps (C2 k s (i+j) v)
 | t::r,0,i,_=>by simp [CS]
 | t::r,j+1,i,h=>by
  simp only [ja,CS,kj];rw [Lo ps v k s r j (i+1) (by simpa using h)];rw [show i+1+j=i+(j+1) by omega];omega
def MB (ps:List PD) (v:List VD) (s:lB) (m:Nat):∀(l:List Nd) (j i:Nat) (h:j<l.length),FV ps v s m i (l.take (j+1))=FV ps v s m i (l.take j)+O9 (Qj ps v s m (i+j) (l[j]).name)
 | t::r,0,i,_=>by simp [FV]
 | t::r,j+1,i,h=>by
  simp only [ja,FV,kj];rw [MB ps v s m r j (i+1) (by simpa using h)];rw [show i+1+j=i+(j+1) by omega];omega
def IW:∀(l:List Nd) {j:Nat} (h:j<l.length),AV (l.take j)+l[j].size<=AV l
 | t::r,0,_=>by simp [AV]
 | t::r,j+1,h=>by
  have:=IW r (j:=j) (by simpa using h);simp only [ja,AV,kj];omega
set_option maxHeartbeats 8000000 in
def Q2 (c fb:Nat) (dq:c<=fb) (rf:FuncId) (ca:lV) (bo:BZ prog rf=true) (E:wD->Value->Prop) (hR:W9 c fb rf ca E) (g:PG) (hg:g.procs.length<=1000000) (va:oA) (vc:Nat) (pa:oA) (pc:Nat) (ma:oA) (mc:Nat) (N:Nat) :
 ∀(t:Nd) (vs:List VD) (Sv Sp:nP) (ta:oA) (tc:Nat) (la:oA) (lc:Nat) (qa:oA) (qn qc:Nat) (w:wD) (v:Value) (m:Nat),t.size<N->vs.length+t.size<=1000000->qn+t.size<=1000000->m+t.size<=1000000000->t.sits (· < c) w ta->PDs (· < c) w g.procs pa->VDs Sv w vs la->vs.length<=lc->PathAt Sp w qa qn qc->(∀b,Sv b->Kp fb w v b)->(∀b,Sp b->Kp fb w v b)->FS c fb m w v->E w v ->
  Calls prog 107 #[.agg (g.cells va vc pa pc ma mc).toArray,t.val ta tc,.slice qa qn qc,.slice la vs.length lc,.func (.func rf) #[] ca.toArray] w (RepR c fb (m+t.flt g.procs vs) w v):=by
 induction N with
 | zero=>intro t vs Sv Sp ta tc la lc qa qn qc w v m h;omega
 | succ N ih=>
  rintro ⟨k,n,s,l⟩ vs Sv Sp ta tc la lc qa qn qc w v m hN ck cl cm V M O bd U be bf hF hE;have hz:(Nd.mk k n s l).size=1+AV l:=by rw [mg]
  have c0:=Cz l;rw [hz] at hN ck cl cm;have IH:=gO ih;have aq:=gO hR.1;have bp:=gO hR.2;have a5:∀b,Sv b -> ¬(b=fb\/v.ownBlock=some b):=λb Z=>(be b Z).not
  have a6:∀b,Sp b -> ¬(b=fb\/v.ownBlock=some b):=λb Z=>(bf b Z).not
  have al:∀g,v.ownBlock=some g->c<=g/\g<w.heap.size:=λg hg=>⟨hF.own.ge hg,hF.own.lt hg⟩
  have dr:=hF.cell.lt;have ar:=gO be;have a0:=gO bf;have bq:=gO (Zd g hg k n s l ta tc vs Ab (· < c) Sv va vc pa pc ma mc la lc);have a7:=gO (λ(w':wD) (x:Ext w w') (p:PathAt Sp w' qa qn qc)=>bp.out m v (CE g.procs vs k s l.length) s Sp qa qn qc w' Ab Ab p (hF.ext x) (aq.out _ _ _ _ hE (Eff.of_ext x)));have bg:=gO hE;clear ih hR be bf hE hF;have X:=Ne w;have X2:=lZ (λk=>k=fb\/v.ownBlock=some k) w;have V:=EJ V;show Calls prog 107 #[.agg (g.cells va vc pa pc ma mc).toArray,.agg #[.int .u8 k,.int .i64 n,str s,.slice ta l.length tc],.slice qa qn qc,.slice la vs.length lc,.func (.func rf) #[] ca.toArray] w _;refine Ad func107 ntmps107 rfl rfl ?_;refine cS (eB [_,_,_,_,_,_] ?_);intro b1 w2 Y x5 p6 z7;revert M O U X X2 V;refine eE x5 ?_;intro M O U X X2 V;refine eB [_,_,_,_] ?_;intro b8 w9 G cn ds dt;revert Y M O U X X2 V;refine eE cn ?_;intro Y M O U X X2 V;refine eK ?_;refine Aq (λwz=>Ext w9 wz) 8 (.pure 0 (.pure 1 (.pure 2 (.pure 3 (.pure 4 (.pure 5 (.pure 6 (.fork 7 .tail .none)))))))) mixed AU (Aa Ag) ?_;intro co br _;have ah:(λwz=>Ext w9 wz) co:=br;simp only at ah;have ac:=G;have ai:=Y;revert G Y M O U X X2 V;refine eY br ?_;intro du G Y M O U X X2 V;refine ⟨ah,?_⟩;refine eT ?_;refine Tq rfl (xL [_,_,_,_,_,_] (λwz hz=>(l9 ai hz))) (Tq rfl (xL [_,_,_,_] (λwz hz=>(l9 ac hz))) (Tq rfl Mv ?_));refine tC rfl rfl (bq.out _ Ae Ae) ?_;rintro _ dv ⟨⟨⟩,cp⟩;revert ah G Y M O U X X2 V;refine eY cp ?_;intro z22 ah G Y M O U X X2 V;refine ⟨ah,?_⟩;refine Ar rfl ?_;refine Ax (A8 (fi:=[]) (ca:=ca) bo rfl rfl (a7.out _ Ae Ae) (λ_ _ h=>h.ret)) rfl ?_ aFh
  rintro _ a1 ⟨⟨⟩,an,a2,aj,a3⟩;have z28:=aj.size;have G:=lY G aj (λh=>by (rcases h with h|h;omega;have:=al _ h;omega));have Y:=lY Y aj (λh=>by (rcases h with h|h;omega;have:=al _ h;omega));have M:=PDs.fr M aj (λb Z h=>by (rcases h with h|h;omega;have:=al _ h;omega));have O:=mB O aj (a5);have U:=PathAt.fr U aj (a6);have X2:=l8 X2 aj (λk hk=>gP hk);have V:=mA V aj (λb Z h=>by (rcases h with h|h;omega;have:=al _ h;omega));refine cT (Aj ?_);have e1:Eff fb w v a1 an:=⟨X2,λg hg=>(a3 g hg).imp id λh=>by omega⟩;have k1:Kp fb a1 an b1:=⟨Y.lt,Ab,λe=>by rcases a3 _ e with h|h;(have:=al _ h;omega);omega⟩;have k8:Kp fb a1 an b8:=⟨G.lt,Ab,λe=>by rcases a3 _ e with h|h;(have:=al _ h;omega);omega⟩;have EE:=gO (aq.out);have bs:=gO (aq.out _ _ _ _ bg.out e1);have a8:(Nd.mk k n s l).flt g.procs vs=O9 (CE g.procs vs k s l.length)+(if k=50\/k=51 then FV g.procs vs s l.length 0 l else CS g.procs vs k s 0 l):=by rw [Nd.flt]
  rw [a8];have dw:=PJ (CE g.procs vs k s l.length);clear a8;generalize O9 (CE g.procs vs k s l.length)=m0 at *;clear a7 bq a5 a6 al a3 X2;generalize an=v1 at *;refine FZ (ι:=Unit) (λ_=>[(2,.slice qa qn qc),(3,.slice la vs.length lc),(4,.func (.func rf) #[] ca.toArray),(5,pt b1),(6,pt b8),(30,.bool (decide (k=50\/k=51)))]) (λ_ w'=>w'=a1) ?_ ?_
  . focus
     refine eK ?_;refine B0 rfl rfl rfl (λcq=>?_) (λcq=>?_);refine FO (FO (FO (C1 TL (Ak ?_))));rotate_left;refine FN (C1 Pg (FN (C1 (Pl G) (FN (C1 V1 (C1 Sh (Ak ?_)))))));rotate_left
    all_goals exact BY () (An rfl (An rfl (An rfl (An rfl (An rfl (B4 rfl (congrArg Value.bool (by first|exact (decide_eq_true Ab).symm|exact decide_eq_decide.2 Ab)) BK)))))) rfl
  rintro-w0 h;subst h;by_cases hk:k=50\/k=51
  . rw [AH hk];clear IH;refine YO (Aj (cS (C1 Pf (C1 (Pl G) (C1 Pz (C1 Mv (cT ?_)))))));refine Au ?_;refine AQ (ι:=Nat×Value) (λx=>[(2,.slice qa qn qc),(3,.slice la vs.length lc),(4,.func (.func rf) #[] ca.toArray),(5,pt b1),(6,pt b8),(32,.slice ta l.length tc),(33,.int .i64 l.length),(34,.int .i64 x.1)])
     (λx w'=>x.1<=l.length/\FS c fb (m+m0+FV g.procs vs s l.length 0 (l.take x.1)) w' x.2/\Eff fb w v w' x.2/\Kp fb w' x.2 b1/\Kp fb w' x.2 b8/\Blk w' b8 [.int .u8 k,.int .i64 n,str s,.slice ta l.length tc]/\Blk w' b1 (g.cells va vc pa pc ma mc)/\PDs (· < c) w' g.procs pa/\VDs Sv w' vs la/\PathAt Sp w' qa qn qc/\rowSits (· < c) w' l ta)
     (λx=>l.length-x.1) (0,v1) sB ⟨ii _,a2,e1,k1,k8,G,Y,M,O,U,V⟩ ?_
    clear a2 e1 k1 k8 G Y M O U V bs;rintro ⟨j,vj⟩ w3 ⟨hj,hF,e3,k1,k8,G,Y,M,O,U,V⟩;simp only at hj hF e3 k1 k8 G Y M O U V;by_cases ag:j<l.length
    . have ad:∀g,vj.ownBlock=some g->c<=g/\g<w3.heap.size/\g≠b1/\g≠b8:=λg hg=>⟨hF.own.ge hg,hF.own.lt hg,λe=>k1.2.2 (e▸hg),λe=>k8.2.2 (e▸hg)⟩
      have au:∀b,Sv b -> ¬(b=fb\/vj.ownBlock=some b):=λb Z=>((ar.out b Z).eff e3).not
      have av:∀b,Sp b -> ¬(b=fb\/vj.ownBlock=some b):=λb Z=>((a0.out b Z).eff e3).not
      have aw:∀b,Sv b->b<w3.heap.size:=λb Z=>((ar.out b Z).eff e3).1
      have ax:∀b,Sp b->b<w3.heap.size:=λb Z=>((a0.out b Z).eff e3).1
      have bh:=k1.not;have bi:=k8.not;have cr:=k8.1;have bj:=gO (EE.out _ _ _ _ bg.out e3);have bt:=MA g.procs vs s l.length (l.take j) 0;rw [iO] at bt;have am:=MB g.procs vs s l.length l j 0 ag;rw [iY] at am;obtain ⟨kb,ko,rfl,kS,ak⟩:=BG V (by intro e;subst e;simp at ag);obtain ⟨xa,xc,rx,-⟩:=ak j l[j] (gN ag);have bu:=gO (Q1 g hg k n s l Ab j ag vs Ab);have ay:=gO (λ(w':wD) (x:Ext w3 w') (S:nP) (pa:oA) (pn pc:Nat) (hp:pn<=1000000) (p:PathAt S w' pa pn pc)=>bp.out (m+m0+FV g.procs vs s l.length 0 (l.take j)) vj (Qj g.procs vs s l.length j l[j].name) l[j].name S pa pn pc w' Ab hp p (hF.ext x) (aq.out _ _ _ _ bj.out (Eff.of_ext x)));have E3:=gO e3;clear ak hF e3;have az:m+m0+FV g.procs vs s l.length 0 (l.take (j+1))=m+m0+FV g.procs vs s l.length 0 (l.take j)+O9 (Qj g.procs vs s l.length j l[j].name):=by rw [am];omega
      rw [<-az] at ay;clear am az;generalize l[j]=x at *;generalize Qj g.procs vs s l.length j x.name=ex at *;have X3:=Ne w3;have X4:=lZ (λk=>k=fb\/vj.ownBlock=some k) w3;refine eK ?_;refine eA [_,_,_,_] ?_;intro dx dy ct cu dz d0;revert Y M O U G V X3 X4;refine eE cu ?_;intro Y M O U G V X3 X4;refine C1 Pa (eS [_,_,_,_] ct ?_);intro bv bw ao c1;revert Y M;refine eF ao ?_;intro Y M;have O:=mB O ao (λb Z e=>by have:=aw b Z;omega);have U:=PathAt.fr U ao (λb Z e=>by have:=ax b Z;omega);revert G V X3 X4;refine eF ao ?_;intro G V X3 X4;refine cT (Aq (λwz=>Ext bv wz) 11 (.pure 0 (.pure 1 (.pure 2 (.pure 4 (.pure 5 (.pure 6 (.pure 7 (.pure 8 (.pure 9 (.fork 3 (.fork 10 .tail .none) .none)))))))))) mixed AU (Af (Aa (Aa (Af (Aa (Aa Ag)))))) ?_);intro bx a9 _;have aa:(λwz=>Ext bv wz) bx:=a9;simp only at aa;have cj:=bw;have ai:=Y;have ac:=G;revert Y M O U G V X3 X4;refine eY a9 ?_;intro c2 Y M O U G V X3 X4;refine ⟨aa,?_⟩;refine eT ?_;refine Tq rfl (xL [_,_,_,_,_,_] (λwz hz=>(l9 ai hz))) (Tq rfl (xL [_,_,_,_] (λwz hz=>(l9 ac hz))) (Tq rfl Mv (Tq rfl Mv ?_)));refine tC rfl rfl (Ua _ _ _ _ _ _ Ab Ae) ?_;rintro _ c3 ⟨c4,c5,⟨⟩,ba,bz⟩;revert aa Y M O U G V X3 X4;refine eY bz ?_;intro c6 aa Y M O U G V X3 X4;refine ⟨aa,?_⟩;refine tC rfl rfl (bu.out _ _ _ _ _ _ _ _ _ _ _ _ _ _ Ae Ae Ae) ?_;rintro _ c7 ⟨⟨⟩,b0⟩;revert ba aa Y M O U G V X3 X4;refine eY b0 ?_;intro c8 ba aa Y M O U G V X3 X4;refine ⟨aa,?_⟩;refine Ar rfl ?_;refine Ax (A8 (fi:=[]) (ca:=ca) bo rfl rfl (ay.out _ Ae _ _ _ _ Ab Ae) (λ_ _ h=>h.ret)) rfl ?_ aFh;rintro _ b2 ⟨⟨⟩,bk,b3,ae,b4⟩;have Y:=lY Y ae (bh);have M:=PDs.fr M ae (λb Z h=>by (rcases h with h|h;omega;have:=ad _ h;omega));have O:=mB O ae (au);have U:=PathAt.fr U ae (av);have G:=lY G ae (bi);have V:=mA V ae (λb Z h=>by (rcases h with h|h;omega;have:=ad _ h;omega));clear rx;have X4:=l8 X4 ae (λk hk=>gP hk);refine Ak (Ah (Ai (Al (C1 V7 (C1 Mv (Ak ?_))))))
      have e4:Eff fb w3 vj b2 bk:=⟨X4,λg hg=>(b4 g hg).imp id λh=>by omega⟩
      exact AA (j+1,_) sB ⟨by simp only;omega,b3,E3.out.trans e4,k1.eff e4,k8.eff e4,G,Y,M,O,U,V⟩ (by simp only;omega)
    . obtain rfl:j=l.length:=by omega
      rw [im] at hF;refine eK ?_;refine EW rfl ?_;rw [<-lG];exact ⟨rfl,vj,hF,e3.fr,e3.new⟩
  . rw [At hk];refine YE (Ao (Ai (cS (C1 Pf (C1 (Pl G) (C1 Pz (C1 Mv (cT ?_))))))));refine Au ?_;refine AQ (ι:=Nat×Value) (λx=>[(2,.slice qa qn qc),(3,.slice la vs.length lc),(4,.func (.func rf) #[] ca.toArray),(5,pt b1),(6,pt b8),(53,.slice ta l.length tc),(54,.int .i64 l.length),(55,.int .i64 x.1)])
     (λx w'=>x.1<=l.length/\FS c fb (m+m0+CS g.procs vs k s 0 (l.take x.1)) w' x.2/\Eff fb w v w' x.2/\Kp fb w' x.2 b1/\Kp fb w' x.2 b8/\Blk w' b8 [.int .u8 k,.int .i64 n,str s,.slice ta l.length tc]/\Blk w' b1 (g.cells va vc pa pc ma mc)/\PDs (· < c) w' g.procs pa/\VDs Sv w' vs la/\PathAt Sp w' qa qn qc/\rowSits (· < c) w' l ta)
     (λx=>l.length-x.1) (0,v1) sB ⟨ii _,a2,e1,k1,k8,G,Y,M,O,U,V⟩ ?_
    clear a2 e1 k1 k8 G Y M O U V bs;rintro ⟨j,vj⟩ w3 ⟨hj,hF,e3,k1,k8,G,Y,M,O,U,V⟩;simp only at hj hF e3 k1 k8 G Y M O U V;by_cases ag:j<l.length
    . have ad:∀g,vj.ownBlock=some g->c<=g/\g<w3.heap.size/\g≠b1/\g≠b8:=λg hg=>⟨hF.own.ge hg,hF.own.lt hg,λe=>k1.2.2 (e▸hg),λe=>k8.2.2 (e▸hg)⟩
      have au:∀b,Sv b -> ¬(b=fb\/vj.ownBlock=some b):=λb Z=>((ar.out b Z).eff e3).not
      have av:∀b,Sp b -> ¬(b=fb\/vj.ownBlock=some b):=λb Z=>((a0.out b Z).eff e3).not
      have aw:∀b,Sv b->b<w3.heap.size:=λb Z=>((ar.out b Z).eff e3).1
      have ax:∀b,Sp b->b<w3.heap.size:=λb Z=>((a0.out b Z).eff e3).1
      have bh:=k1.not;have bi:=k8.not;have cr:=k8.1;have c9:=hF.cell.lt;have da:=hF.le;have bj:=gO (EE.out _ _ _ _ bg.out e3);have d1:=KL g.procs (l.take j) vs k s 0;have am:=Lo g.procs vs k s l j 0 ag;rw [iY] at am;have d2:=IW l ag;obtain ⟨kb,ko,rfl,kS,ak⟩:=BG V (by intro e;subst e;simp at ag);obtain ⟨xa,xc,rx,sx⟩:=ak j l[j] (gN ag);have db:(C2 k s j vs).length<=vs.length+1:=by unfold C2;split<;>(try split)<;>simp
      have HV:=gO (λ(w':wD) (x:Ext w3 w') (bl bm:nP) (b5:oA) (b6:Nat) (b7:oA) (b9:Nat) (V:(l[j]).sits (· < c) w' xa) (M:PDs (· < c) w' g.procs pa) (O:VDs bl w' (C2 k s j vs) b5) (bd:(C2 k s j vs).length<=b6) (U:PathAt bm w' b7 (qn+1) b9) (cv:∀b,bl b->Sv b\/(w3.heap.size<=b/\b<w'.heap.size)) (cw:∀b,bm b->w3.heap.size<=b/\b<w'.heap.size)=>
       IH.out l[j] (C2 k s j vs) bl bm xa xc b5 b6 b7 (qn+1) b9 w' vj (m+m0+CS g.procs vs k s 0 (l.take j)) Ab Ab Ab Ab V M O bd U
        (λb Z=>by
         rcases cv b Z with h|h
         . exact ((ar.out b h).eff e3).eff (Eff.of_ext x)
         . exact ⟨h.2,Ab,λe=>by have:=ad _ e;omega⟩)
        (λb Z=>by have h:=cw b Z;exact ⟨h.2,Ab,λe=>by have:=ad _ e;omega⟩) (hF.ext x) (aq.out _ _ _ _ bj.out (Eff.of_ext x)))
      have az:m+m0+CS g.procs vs k s 0 (l.take (j+1))=m+m0+CS g.procs vs k s 0 (l.take j)+(l[j]).flt g.procs (C2 k s j vs):=by rw [am];omega
      rw [<-az] at HV;have cx:=gO (Zc k n s l (some ⟨kb,ko,none⟩) tc j vs Ab Sv la lc);have E3:=gO e3;clear ak hF e3 am az;generalize C2 k s j vs=d3 at *;generalize l[j]=x at *;have X3:=Ne w3;have X4:=lZ (λk=>k=fb\/vj.ownBlock=some k) w3;refine eK ?_;refine eA [_,_,_,_] ?_;intro d4 d5 cy cz d6 d7;revert Y M O U G V sx X3 X4;refine eE cz ?_;intro Y M O U G V sx X3 X4;refine C1 Pa (eS [_,_,_,_] cy ?_);intro cb cc ap dc;revert Y M;refine eF ap ?_;intro Y M;have O:=mB O ap (λb Z e=>by have:=aw b Z;omega);have U:=PathAt.fr U ap (λb Z e=>by have:=ax b Z;omega);revert G V sx X3 X4;refine eF ap ?_;intro G V sx X3 X4;refine cT (Aq (λwz=>Ext cb wz) 10 (.pure 0 (.pure 1 (.pure 2 (.pure 3 (.pure 5 (.pure 6 (.pure 7 (.pure 9 (.fork 4 (.fork 8 .tail .none) .none))))))))) mixed AU (Af (Aa (Aa (Af Ag)))) ?_);intro cd bb _;have ab:(λwz=>Ext cb wz) cd:=bb;simp only at ab;have a4:=cc;have ai:=Y;have ac:=G;revert Y M O U G V sx X3 X4;refine eY bb ?_;intro dd Y M O U G V sx X3 X4;refine ⟨ab,?_⟩;refine Tq rfl (xL [_,_,_,_,_,_] (λwz hz=>(l9 ai hz))) (Tq rfl (xL [_,_,_,_] (λwz hz=>(l9 a4 hz))) (Tq rfl Mv (Tq rfl Mv (Tq rfl (xL [_,_,_,_] (λwz hz=>(l9 ac hz))) ?_))));refine eT ?_;refine tC rfl rfl (Ua _ _ _ _ _ _ Ab Ae) ?_
      rintro _ de ⟨df,dg,⟨⟩,bc,ce⟩;revert ab Y M O U G V sx X3 X4;refine eY ce ?_;intro dh ab Y M O U G V sx X3 X4;refine ⟨ab,?_⟩;refine tC rfl rfl (cx.out _ bd Ae) ?_;rintro _ di ⟨dk,dl,⟨⟩,dm,dn,cf⟩;revert bc ab Y M O U G V sx X3 X4;refine eY cf ?_;intro dp bc ab Y M O U G V sx X3 X4;refine ⟨ab,?_⟩;refine Ar rfl (cC rfl (HV.out _ Ae _ _ _ _ _ _ Ae Ae Ae Ab Ae (by (intro b Z;rcases Z with Z|Z;exact gP Z;exact gQ ⟨Ab,Ab⟩)) (by (intro b Z;exact ⟨Ab,Ab⟩))) ?_);rintro _ cg ⟨⟨⟩,bn,ch,af,ci⟩;have Y:=lY Y af (bh);have M:=PDs.fr M af (λb Z h=>by (rcases h with h|h;omega;have:=ad _ h;omega));have O:=mB O af (au);have U:=PathAt.fr U af (av);have G:=lY G af (bi);have V:=mA V af (λb Z h=>by (rcases h with h|h;omega;have:=ad _ h;omega));clear rx;have X4:=l8 X4 af (λk hk=>gP hk);refine Ak (Ah (Ai (Al (C1 V7 (C1 Mv (Ak ?_))))));have e4:Eff fb w3 vj cg bn:=⟨X4,λg hg=>(ci g hg).imp id λh=>by omega⟩
      exact AA (j+1,_) sB ⟨by simp only;omega,ch,E3.out.trans e4,k1.eff e4,k8.eff e4,G,Y,M,O,U,V⟩ (by simp only;omega)
    . obtain rfl:j=l.length:=by omega
      rw [im] at hF;refine cS (C1 V3 (cT (Aj (Dz (B9 (Az (Az (A0 (Bm rfl ?_)))))))));rw [<-lG];exact ⟨rfl,vj,hF,e3.fr,e3.new⟩
def aT (S:nP) (w:wD) (b o:Nat) (p:PD):Prop:= ∃pa pc ba bc,Row w ⟨b,o,none⟩ (p.cells pa pc ba bc)/\VDs S w p.params pa/\p.body.sits S w ba/\p.params.length<=pc
def PDsC (S:nP) (w:wD) (l:List PD) (a:oA):Prop:=Arr S 6 (aT S) w l a
def PDsC.pds (h:PDsC S w l a):PDs S w l a:=h.mono aFh (λ_ _ _ _ _ ⟨G,pc,ba,bc,h1,h2,h3,_⟩=>⟨G,pc,ba,bc,h1,h2,h3⟩)
def PDsC.ext {S:nP} {w w':wD} {l:List PD} {a:oA} (h:PDsC S w l a) (x:Ext w w'):PDsC S w' l a:=
 h.mono aFh (λ_ _ _ _ _ ⟨G,pc,ba,bc,h1,h2,h3,h4⟩=>⟨G,pc,ba,bc,h1.ext x,h2.ext x,h3.ext x,h4⟩)
instance:LfE w w' (PDsC S w l a) (PDsC S w' l a):=⟨λx h=>Bk.PDsC.ext h x⟩
def PDsC.fr {S T:nP} {w w':wD} {l:List PD} {a:oA} (h:PDsC S w l a) (x:Fr T w w') (G:∀b,S b -> ¬T b):PDsC S w' l a:=
 h.mono aFh (λb _ _ _ M ⟨N,pc,ba,bc,h1,h2,h3,h4⟩=>⟨N,pc,ba,bc,h1.fr x (G b M),h2.fr x G,h3.fr x G,h4⟩)
instance {T:nP}:LfF T w w' (PDsC S w l a) (∀b,S b -> ¬T b) (PDsC S w' l a):=⟨λx s h=>Bk.PDsC.fr h x s⟩
def PDsC.get (h:PDsC S w l a) (G:l≠[]):∃b o,a=some ⟨b,o,none⟩/\S b /\ ∀i p,l[i]? = some p->aT S w b (o+i*6) p:=by
 rcases h with h|⟨b,o,M,N,O⟩
 . exact absurd h G
 . exact ⟨b,o,M,N,λi v U=>O i v U⟩
def PDsC.ltA (h:PDsC S w l a):PDsC (· < w.heap.size) w l a:=by
 rcases h with h|⟨b,o,V,h2,G⟩
 . exact gP h
 . cases l with
   | nil=>exact gP rfl
   | cons p r=>
    obtain ⟨M,N,O,U,X,-⟩:=G 0 p rfl;refine gQ ⟨b,o,V,Cs (X.at0 rfl),λi v Y=>?_⟩;obtain ⟨M,N,O,U,k1,Z,k3,k4⟩:=G i v Y;exact ⟨M,N,O,U,k1,Z.lt2.wide (λ_ h=>h.2),Cd _ _ k3,k4⟩
def E9:Shape PD where
 sz:=6
 rep:=λw S p cs=> ∃pa pc ba bc,cs=p.cells pa pc ba bc/\VDs S w p.params pa/\p.body.sits S w ba/\p.params.length<=pc
 len:=λ⟨_,_,_,_,h,_⟩=>by rw [h];rfl
 one:=λ⟨_,_,_,_,h,_⟩=>by rw [h];rfl
 mono:=λ⟨pa,pc,ba,bc,h,h1,h2,h3⟩ hS hc=>⟨pa,pc,ba,bc,h,h1.move hS hc,Nd.sits_mono hS hc _ ba h2,h3⟩
 lt:=λ⟨pa,pc,ba,bc,h,h1,h2,h3⟩=>⟨pa,pc,ba,bc,h,h1.lt2,Gq _ ba h2,h3⟩
def PDsC.wide {S S':nP} {w:wD} {l:List PD} {a:oA} (h:PDsC S w l a) (G:∀b,S b->S' b):PDsC S' w l a:=
 h.mono G (λ_ _ _ _ _ ⟨M,pc,ba,bc,h1,h2,h3,h4⟩=>⟨M,pc,ba,bc,h1,h2.wide G,l6 h3 G,h4⟩)
def OwnL.pdsC {B e:Nat} {len cap:Nat} {xs:List PD} (h:OwnL E9 w B e (.slice a len cap) xs) (M:∀b,B<=b->S b):PDsC S w xs a:=by
 by_cases O:xs=[]
 . exact gP O
 . obtain ⟨g,U,V,X,G⟩:=h.rows O;simp only [iK] at V;obtain ⟨rfl,-,-⟩:=V;refine gQ ⟨g,0,rfl,M g X,λi x Y=>?_⟩;obtain ⟨cs,Z,pa,pc,ba,bc,rfl,h1,h2,h3⟩:=G i x Y;exact ⟨pa,pc,ba,bc,by simpa [E9] using Z,h1.wide (λb N=>M b N.1),h2.wide (λb N=>M b N.1),h3⟩
def Hv:∀(l acc:List VD) (i:Nat) (h:i<l.length),Cu acc (l.take (i+1))=Cu acc (l.take i)+O9 (Fd (acc++l.take i) (l[i]).name)
 | v::r,acc,0,_=>by simp [Cu]
 | v::r,acc,i+1,h=>by
  simp only [ja,Cu,kj];rw [Hv r (acc++[v]) i (by simpa using h)];simp only [iI,kO];omega
def Fu:∀(l acc:List VD),Cu acc l<=l.length
 | [],_=>by simp [Cu]
 | v::r,acc=>by
  have:=PJ (Fd acc v.name);have:=Fu r (acc++[v]);simp only [Cu,gV];omega
def MC (ps:List PD) (i:Nat) (p:PD):Nat:=(if (Cg ps p.name).getD i<i then 1 else 0)+Cu [] p.params+p.body.flt ps p.params
def Lp (ps:List PD):∀(l:List PD) (i j:Nat) (h:j<l.length),DR ps i (l.take (j+1))=DR ps i (l.take j)+MC ps (i+j) l[j]
 | p::r,i,0,_=>by simp [DR,MC]
 | p::r,i,j+1,h=>by
  simp only [ja,DR,kj];rw [Lp ps r (i+1) j (by simpa using h)];rw [show i+1+j=i+(j+1) by omega];omega
def Xa {ps:List PD} {i:Nat} (h:i<ps.length):decide (Gx ps (ps[i]).name<(i:Int))=decide ((Cg ps (ps[i]).name).getD i<i):=by
 unfold Gx;cases hq:Cg ps (ps[i]).name with
 | none=>
  exfalso;unfold Cg at hq;rw [List.findIdx?_eq_none_iff] at hq;have:=hq ps[i] (ig h);simp at this
 | some j=>simp
def VD.ok (v:VD):Bool:=Cv v.name&&if v.kind=1\/v.kind=3 then v.len==0 else if v.kind=2 then decide (1<=v.len)&&decide (v.len<=16) else false
def G7 (l:List VD):Bool:=l.all VD.ok
mutual
def Nd.lim:Nd->Int->Int->Bool×Int
 | .mk _ _ _ l,d,m=>if d=0\/m=0 then (false,m) else C6 l (d-1) (m-1)
def C6:List Nd->Int->Int->Bool×Int
 | [],_,m=>(true,m)
 | t::r,d,m=>if (t.lim d m).1 then C6 r d (t.lim d m).2 else (false,(t.lim d m).2)
end
def Ff (t:Nd):Bool:=(t.lim 80 2000).1&&t.isBlock
def PD.ok (p:PD):Bool:=Cv p.name&&decide (p.params.length<=8)&&G7 p.params&&Ff p.body
def PG.ok (g:PG):Bool:=decide (g.vars.length<=32)&&decide (g.procs.length<=64)&&G7 g.vars&&g.procs.all PD.ok&&Ff g.main
end Bk
namespace Bk
open Go Go.RowKit Go.Proofs
variable {G:List (lB×Value)} {r m n t:Nat} {w w':wD} {l:List (Int×Int)} {S:nP} {N:oA} {x:Operand} {g:PG} {xs:List Int} {e:Ending} {ps:List PD} {v:Value} {k:Int}
structure VD.wf (v:VD):Prop where
 name:v.name.length<=9223372036854775807
 k0:0<=v.kind
 k1:v.kind<=255
 l0 : -9223372036854775808<=v.len
 l1:v.len<=9223372036854775807
def Q3 {l:List VD} {j:Nat} (h:j<l.length) (G:l[j].ok=false):G7 l=false:=by
 unfold G7;rw [lO];exact ⟨l[j],ig h,by simp [G]⟩
def ST {l:List VD} (h:∀j (N:j<l.length),l[j].ok=true):G7 l=true:=by
 unfold G7;rw [iN];intro x G;obtain ⟨i,M,rfl⟩:=List.mem_iff_getElem.1 G;exact h i M
def MD (l:List VD) (S:nP) (a:oA) (c:Nat) (w:wD) (hl:l.length<=9223372036854775807) (ab:∀v∈l,v.wf) (hs:VDs S w l a) :
 Calls prog 102 #[.slice a l.length c] w λe w'=>e = .returned (.bool (G7 l))/\Ext w w':=by
 refine Ad func102 ntmps102 rfl rfl (eK ?_);refine AQ (ι:=Nat) (λj=>[(7,.int .i64 j),(6,.int .i64 l.length),(5,.slice a l.length c)]) (λj w'=>Ext w w'/\j<=l.length /\ ∀i (U:i<l.length),i<j->l[i].ok=true) (λj=>l.length-j) 0 sB ⟨Ne _,Ab,Ab⟩ ?_;rintro j w1 ⟨x1,hj,Y⟩;have HA:=gO Y;by_cases V:j<l.length
 . obtain ⟨kb,ko,rfl,-,Z⟩:=mw (hs.ext x1) Ab;have rx:Row w1 ⟨kb,ko+j*3,none⟩ l[j].cells:=Z j l[j] (gN V);have wf:=ab l[j] (ig V);have ac:=wf.name;have HF:l[j].ok=false->G7 l=false:=Q3 V;have X:=gO HF;generalize hv:l[j]=v at *;have HE:=gO hv;refine eK ?_;refine Hc CJ rfl rfl ?_;intro b2 w2 N;refine JC Ac rfl rfl rfl rfl rfl rfl (N) rfl ?_;intro w2 N;have h2:=N.blk;have x2:=N.ext;refine kC (KH v.name _ ac) ?_;rintro _ w3 ⟨⟨⟩,x3⟩;have G:Ext w w3:=(by refine mh ?_ Ae;refine mh ?_ Ae;assumption);have h3:=h2.ext x3;cases hnm:Cv v.name
   . try rw [hnm]
     refine C1 Pt (Ak (Ai (G9 rfl (by rfl) (eK ?_))));refine AT results102 rfl ?_;exact ⟨AX (X.out (by simp [VD.ok,hnm])).symm,G⟩
   try rw [hnm]
   by_cases M:v.kind=1\/v.kind=3
   . by_cases h0:v.len=0
     . have h:v.ok=true:=by simp [VD.ok,hnm,M,h0]
       rcases M with M|M
       . refine C1 Pt (Ak (Ai (Ha rfl (by rfl) ?_)));refine eK ?_;refine AA (j+1) sB ⟨G,Ab,λi U aa=>?_⟩ Ab;by_cases e:i=j
         . subst e;exact HE.out▸h
         . exact HA.out i U Ab
       . refine C1 Pt (Ak (Ai (Ha rfl (by rfl) ?_)));refine eK ?_;refine AA (j+1) sB ⟨G,Ab,λi U aa=>?_⟩ Ab;by_cases e:i=j
         . subst e;exact HE.out▸h
         . exact HA.out i U Ab
     . have h:v.ok=false:=by simp [VD.ok,hnm,M,h0]
       rcases M with M|M
       . refine C1 Pt (Ak (Ai (Ha rfl (by rfl) ?_)));refine eK ?_;refine AT results102 rfl ?_;exact ⟨AX (X.out h).symm,G⟩
       . refine C1 Pt (Ak (Ai (Ha rfl (by rfl) ?_)));refine eK ?_;refine AT results102 rfl ?_;exact ⟨AX (X.out h).symm,G⟩
   . have ad:v.kind≠1:=λe=>M (gP e)
     have ae:v.kind≠3:=λe=>M (gQ e)
     by_cases O:v.kind=2
     . by_cases af:v.len<1
       . have h:v.ok=false:=by simp [VD.ok,hnm,O];omega
         refine C1 Pt (Ak (Ai (Ha rfl (by rfl) (Ao (Ai (Aj (Al (C1 Pf (C1 NK (Ak (Ai ?_)))))))))));refine Au (Aj (Aj (Al (C1 V1 (C1 Pa (Ak (Ai (YE (Al (C1 V1 (C1 Pa (Ak (Ai (YE (Aj (Al (C1 V1 (C1 Pa (Ak (Ai (YO (Aj (Al (C1 Pf (C1 NK (C1 V3 (C1 Mv (BA rfl rfl rfl Ae rfl (BA rfl rfl rfl Ae rfl (BA rfl rfl rfl Ae rfl (C1 TL (Ak (Ai (G9 rfl (by rfl) (eK ?_)))))))))))))))))))))))))))))))))));refine AT results102 rfl ?_;exact ⟨AX (X.out h).symm,G⟩
       . by_cases ag:16<v.len
         . have h:v.ok=false:=by simp [VD.ok,hnm,O];omega
           refine C1 Pt (Ak (Ai (Ha rfl (by rfl) (Ao (Ai (Aj (Al (C1 Pf (C1 NK (Ak (Ai ?_)))))))))));refine Au (Aj (Aj (Al (C1 V1 (C1 Pa (Ak (Ai (YE (Al (C1 V1 (C1 Pa (Ak (Ai (YE (Aj (Al (C1 V1 (C1 Pa (Ak (Ai (YO (Aj (Al (C1 Pf (C1 NK (C1 V3 (C1 Mv (Bl rfl rfl rfl Ae (C1 Pf (Bl rfl rfl rfl Ae (C1 NK (Bl rfl rfl rfl Ae (eK ?_)))))))))))))))))))))))))))))))));refine AT results102 rfl ?_;exact ⟨AX (X.out h).symm,G⟩
         . have h:v.ok=true:=by simp [VD.ok,hnm,O];omega
           refine C1 Pt (Ak (Ai (Ha rfl (by rfl) (Ao (Ai (Aj (Al (C1 Pf (C1 NK (Ak (Ai ?_)))))))))));refine Au (Aj (Aj (Al (C1 V1 (C1 Pa (Ak (Ai (YE (Al (C1 V1 (C1 Pa (Ak (Ai (YE (Aj (Al (C1 V1 (C1 Pa (Ak (Ai (YO (Aj (Al (C1 Pf (C1 NK (C1 V3 (C1 Mv (Bl rfl rfl rfl Ae (C1 Pf (Bl rfl rfl rfl Ae (C1 NK (Bl rfl rfl rfl Ae (eK ?_)))))))))))))))))))))))))))))))));refine AA (j+1) sB ⟨G,Ab,λi U aa=>?_⟩ Ab;by_cases e:i=j
           . subst e;exact HE.out▸h
           . exact HA.out i U Ab
     . have h:v.ok=false:=by simp [VD.ok,hnm,ad,O,ae]
       refine C1 Pt (Ak (Ai (Ha rfl (by rfl) (eK ?_))));refine AT results102 rfl ?_;exact ⟨AX (X.out h).symm,G⟩
 . refine eK ?_;refine AT results102 rfl ?_;exact ⟨AX (ST (λi U=>HA.out i U Ab)).symm,x1⟩
mutual
def PK:∀(t:Nd) (d m:Int),0<=m->0<=(t.lim d m).2/\(t.lim d m).2<=m
 | .mk _ _ s l,d,m,hm=>by
  simp only [Nd.lim];split
  . exact ⟨hm,Int.le_refl _⟩
  . have:=Of l (d-1) (m-1) Ab;omega
def Of:∀(l:List Nd) (d m:Int),0<=m->0<=(C6 l d m).2/\(C6 l d m).2<=m
 | [],d,m,hm=>by simp only [C6];omega
 | t::r,d,m,hm=>by
  have h1:=PK t d m hm;simp only [C6];split
  . have:=Of r d (t.lim d m).2 h1.1;omega
  . omega
end
def Q4 (l:List Nd) (j:Nat) (h:j<l.length) (d m:Int):C6 (l.drop j) d m=if (l[j].lim d m).1 then C6 (l.drop (j+1)) d (l[j].lim d m).2 else (false,(l[j].lim d m).2):=by
 rw [iB h,C6]
def Vm (N:Nat):∀(t:Nd) (S:nP) (a:oA) (c:Nat) (d m:Int) (M:Nat) (w:wD),t.size<N->t.wf->0<=d->d<=1000000->0<=m->m<=1000000->t.sits S w a -> ¬S M->Blk w M [.int .i64 m] ->
 Calls prog 139 #[t.val a c,.int .i64 d,pt M] w λe w'=>e = .returned (.bool (t.lim d m).1)/\Blk w' M [.int .i64 (t.lim d m).2]/\Fr (· = M) w w':=by
 induction N with
 | zero=>intro t S a c d m M w h;omega
 | succ N ih=>
  intro t S a c d m M w hN ab ar au av aw hs hS hb;have IH:=gO ih;obtain ⟨k,n,s,l⟩:=t;simp only [Nd.wf,mg] at ab hN;simp only [Nd.val,mz,Nd.num,Nd.name,mL,Nd.lim];simp only [Nd.sits] at hs;obtain ⟨-,-,-,-,-,ax,ag⟩:=ab;have aq:=hb.lt;by_cases X:d=0\/m=0
  . rw [AH X];refine Ad func139 ntmps139 rfl rfl (eK ?_);refine LZ rfl rfl rfl ?_;intro b1 w1 G;have h1:=G.blk;have x1:=G.ext;have Y:=hb.ext x1;by_cases hd:d=0
    . refine C1 Pa (Ak (Ai (Aj (Aj (Al (C1 Mv (C1 V1 (C1 Mv (BA rfl rfl rfl Ae rfl (BA rfl rfl rfl Ae rfl (BA rfl rfl rfl Ae rfl ?_)))))))))));refine BA rfl rfl rfl Ae rfl (C1 TL (Ak (Ai (G9 rfl (by rfl) (eK ?_)))));refine AT results139 rfl ?_;exact ⟨rfl,Y,.of_ext x1⟩
    . have hm:m=0:=by omega
      refine C1 Pa (Ak (Ai (Aj (Aj (Al (C1 Mv (C1 V1 (C1 Mv (Bl rfl rfl rfl Ae (C1 Mv (Bl rfl rfl rfl Ae (C1 Pn (Bl rfl rfl rfl Ae (C1 NK (Bl rfl rfl rfl Ae (eK ?_))))))))))))))));refine AT results139 rfl ?_;exact ⟨rfl,Y,.of_ext x1⟩
  . rw [At X];have hd:d≠0:=λe=>X (gP e)
    have hm:m≠0:=λe=>X (gQ e)
    refine Ad func139 ntmps139 rfl rfl (eK ?_);refine LZ rfl rfl rfl ?_;intro b1 w1 G;have h1:=G.blk;have x1:=G.ext;have p1:=G.pos;have Y:=hb.ext x1;have ah:=hs.ext x1;refine C1 Pa (Ak (Ai (Aj (Aj (Al (C1 Mv (C1 V1 (C1 Mv (Bl rfl rfl rfl Ae (C1 Mv (Bl rfl rfl rfl Ae (C1 Pn (Bl rfl rfl rfl Ae (C1 NK (Bl rfl rfl rfl Ae (C1 V1 (C1 Sh (Ak (Ai (YE (Ao (Ai (Aj (Al (C1 Mv (C1 Pn (C1 NK (De (by exact AL rfl rfl (gX _ Ab)) rfl (C1 Pn (L0 Ac rfl rfl rfl rfl rfl rfl (Y) rfl ?_))))))))))))))))))))))))))))));intro w2 O;have ai:Blk w2 M [.int .i64 (m-1)]:=O.blk;have h2:=h1.put O Ab;have aj:rowSits S w2 l a:=ah.fr O.fr (λb hb e=>hS (e▸hb));have f2:Fr (· = M) w w2:=(lX x1).trans O.fr;have ay:w2.heap.size=b1+1:=by rw [O.size,G.size]
    have ak:=gO aj;refine eK ?_;refine AQ (ι:=Nat) (λx=>[(25,.int .i64 x),(24,.int .i64 l.length),(23,.slice a l.length c),(2,pt M),(1,.int .i64 d)]) (λx w'=>Fr (· = M) w2 w'/\x<=l.length /\ ∃V,Blk w' M [.int .i64 V]/\0<=V/\V<=1000000/\C6 l (d-1) (m-1)=C6 (l.drop x) (d-1) V) (λx=>l.length-x) 0 sB ⟨lZ _ _,ii _,m-1,ai,Ab,Ab,rfl⟩ ?_;rintro j w3 ⟨f3,hj,V,ac,aa,ad,al⟩;have HR:=gO al;by_cases U:j<l.length
    . have am:rowSits S w3 l a:=ak.out.fr f3 (λb hb e=>hS (e▸hb));obtain ⟨kb,ko,rfl,az,ae⟩:=BG am (by intro e;subst e;simp at U);obtain ⟨xa,xc,rx,sx⟩:=ae j l[j] (gN U);have an:=BB ag l[j] (ig U);have a0:=Ei (ig U);have HD:=gO (Q4 l j U (d-1) V);generalize l[j]=x at *;have ao:=PK x (d-1) V aa;refine eK ?_;refine Hc CJ rfl rfl ?_;intro b4 w4 Z;refine JC Ac rfl rfl rfl rfl rfl rfl (Z) rfl ?_;intro w4 Z;have h4:=Z.blk;have x4:=Z.ext;have ap:=ac.ext x4;refine Ak (Ai (Aj (Al (De (by exact BC Ac rfl rfl rfl (by exact λwz hz=>by (try subst hz);exact (mi Ae)) (by rfl)) rfl (C1 Mv (De (by exact AL rfl rfl (gX _ Ab)) rfl (C1 Mv (cC rfl (IH.out x S xa xc (d-1) V M _ Ab an Ab Ab aa ad (sx.ext x4) hS ap) ?_))))))));rintro _ w5 ⟨⟨⟩,af,f5⟩;have f35:Fr (· = M) w2 w5:=f3.trans ((lX x4).trans f5);cases X:(x.lim (d-1) V).1
      . try rw [X]
        refine C1 Pt (Ak (Ai (G9 rfl (by rfl) (eK ?_))));refine AT results139 rfl ?_;rw [HR.out,HD.out,X];exact ⟨rfl,af,f2.trans f35⟩
      . try rw [X]
        refine C1 Pt (Ak (Ai (Ha rfl (by rfl) (eK ?_))));refine AA (j+1) sB ⟨f35,Ab,(x.lim (d-1) V).2,af,ao.1,Ab,?_⟩ Ab;rw [HR.out,HD.out,X];rfl
    . refine eK ?_;refine AT results139 rfl ?_;have:l.drop j=[]:=jd Ab;rw [HR.out,this];exact ⟨rfl,ac,f2.trans f3⟩
def Ext.fr1 {a b c:wD} (h:Ext a b) (k:Fr (· = r) b c) (N:a.heap.size<=r):Ext a c:=
 ⟨k.os.trans (Below.os h),k.tape.trans (lT h),k.output.trans (lM h),jg h.size k.size,λi M=>(k.block i (js M h.size) Ab).trans (h.block M)⟩
def Xb (t:Nd) (a:oA) (h:t.sits S w a):t.sits (λb=>S b/\b<w.heap.size) w a:=by
 have key:∀N:Nat,(∀(l:List Nd) (a:oA),AV l<N->rowSits S w l a->rowSits (λb=>S b/\b<w.heap.size) w l a):=by
  intro N
  induction N with
  | zero=>intro l a h;omega
  | succ N G=>
   intro l a M h;cases l with
   | nil=>simp [rowSits]
   | cons x r=>
    simp only [rowSits] at h ⊢;obtain ⟨b,o,O,c,rfl,X,U,Y,Z,h3,V,hr⟩:=h;have hb:=Cs U;simp only [AV] at M;have hx:=Nd.size_pos x;obtain ⟨k,n,s,l⟩:=x;simp only [mg] at M;refine ⟨b,o,O,c,rfl,⟨X,hb⟩,U,Y,Z,h3,?_,G r _ Ab hr⟩;simp only [Nd.sits] at V ⊢;exact G l O Ab V
 obtain ⟨k,n,s,l⟩:=t;simp only [Nd.sits] at h ⊢;exact key (AV l+1) l a Ab h
def Q5 (t:Nd) (S:nP) (a:oA) (c:Nat) (w:wD) (N:t.wf) (X:t.sits S w a) :
 Calls prog 103 #[t.val a c] w λe w'=>e = .returned (.bool (Ff t))/\Ext w w':=by
 have O:=Xb t a X;refine Ad func103 ntmps103 rfl rfl (eK ?_);refine LZ rfl rfl rfl ?_;intro b1 w1 M;have h1:=M.blk;have x1:=M.ext;have p1:=M.pos;have z1:=M.size;refine eK ?_;refine Hc CJ rfl rfl ?_;intro b2 Y G;refine JC Ac rfl rfl rfl rfl rfl rfl (G) rfl ?_;intro Y G;have x2:=G.ext;have h2:=h1.ext x2;have aa:=G.pos;refine Ak (Ai (Aj (Al (De (by exact BC Ac rfl rfl rfl (by exact λwz U=>by (try subst U);exact (mi Ae)) (by rfl)) rfl (cC rfl (Vm (t.size+1) t _ a c 80 2000 b2 _ Ab N Ab Ab Ab Ab (O.ext (by refine mh ?_ Ae;assumption)) (λh=>by omega) G.blk) ?_)))));rintro _ w3 ⟨⟨⟩,-,Z⟩;have V:Ext w w3:=Ext.fr1 (b:=Y) (by refine mh ?_ Ae;assumption) Z Ab;have h3:=h2.fr Z Ab;cases hq:(t.lim 80 2000).1
 . try rw [hq]
   refine eK ?_;refine AT results103 rfl ?_;exact ⟨AX (by simp [Ff,hq]),V⟩
 . try rw [hq]
   refine C1 Mv (Bn rfl rfl rfl (rfl) (De (by exact BC Ac rfl rfl rfl (by exact λwz U=>by (try subst U);exact (mi Ae)) (by rfl)) rfl (Bn rfl rfl rfl (rfl) (cC rfl (U5 S t N a c _ (X.ext V)) ?_))));rintro _ w4 ⟨⟨⟩,x4⟩;refine eK ?_;refine AT results103 rfl ?_;exact ⟨AX (by simp [Ff,hq]),V.trans x4⟩
structure PD.wf (p:PD):Prop where
 name:p.name.length<=9223372036854775807
 len:p.params.length<=9223372036854775807
 params:∀v∈p.params,v.wf
 body:p.body.wf
structure PG.wf (g:PG):Prop where
 nv:g.vars.length<=9223372036854775807
 np:g.procs.length<=9223372036854775807
 vars:∀v∈g.vars,v.wf
 procs:∀p∈g.procs,p.wf
 main:g.main.wf
def Q6 {l:List PD} {j:Nat} (h:j<l.length) (G:l[j].ok=false):l.all PD.ok=false:=by
 rw [lO];exact ⟨l[j],ig h,by simp [G]⟩
def SU {l:List PD} (h:∀j (N:j<l.length),l[j].ok=true):l.all PD.ok=true:=by
 rw [iN];intro x G;obtain ⟨i,M,rfl⟩:=List.mem_iff_getElem.1 G;exact h i M
def Ze (g:PG) (S:nP) (va:oA) (vc:Nat) (pa:oA) (pc:Nat) (ma:oA) (mc:Nat) (w:wD) (h:g.wf) (hs:g.sits S w va pa ma) :
 Calls prog 68 #[.agg (g.cells va vc pa pc ma mc).toArray] w λe w'=>e = .returned (.bool g.ok)/\Ext w w':=by
 have ab:=h.nv;have ah:=h.np;refine Ad func68 ntmps68 rfl rfl ?_;refine eK ?_;refine LZ rfl rfl rfl ?_;intro b1 w1 X;have h1:=X.blk;have x1:=X.ext;by_cases c1:32<g.vars.length
 . refine C1 Pa (Ak (Ai (Aj (Aj (Al (C1 Pg (C1 NK (C1 Pz (C1 V5 (C1 Mv (BA rfl rfl rfl Ab rfl ?_)))))))))));refine BA rfl rfl rfl Ab rfl (BA rfl rfl rfl Ab rfl (BA rfl rfl rfl Ab rfl (C1 aP (C1 Mv (Bh rfl rfl rfl (rfl) rfl (Bh rfl rfl rfl (rfl) rfl (Bh rfl rfl rfl (rfl) rfl (Bh rfl rfl rfl (rfl) rfl (C1 (Co rfl rfl rfl) (Ak (Ai ?_)))))))))));refine G9 rfl (by rfl) ?_;refine eK ?_;refine AT results68 rfl ?_;exact ⟨AX (by simp [PG.ok];omega),x1⟩
 by_cases c2:64<g.procs.length
 . refine C1 Pa (Ak (Ai (Aj (Aj (Al (C1 Pg (C1 NK (C1 Pz (C1 V5 (C1 Mv (Bl rfl rfl rfl Ab ?_)))))))))));refine C1 Pf (Bl rfl rfl rfl Ab (C1 NK (Bl rfl rfl rfl Ab (C1 Pz (Bl rfl rfl rfl Ab (C1 V5 (C1 NY (C1 Mv (BA rfl rfl rfl Ab rfl (BA rfl rfl rfl Ab rfl (BA rfl rfl rfl Ab rfl ?_)))))))))));refine BA rfl rfl rfl Ab rfl (C1 aP (Ak (Ai (G9 rfl (by rfl) ?_))));refine eK ?_;refine AT results68 rfl ?_;exact ⟨AX (by simp [PG.ok];omega),x1⟩
 refine C1 Pa (Ak (Ai (Aj (Aj (Al (C1 Pg (C1 NK (C1 Pz (C1 V5 (C1 Mv (Bl rfl rfl rfl Ab ?_)))))))))));refine C1 Pf (Bl rfl rfl rfl Ab (C1 NK (Bl rfl rfl rfl Ab (C1 Pz (Bl rfl rfl rfl Ab (C1 V5 (C1 NY (C1 Mv (Bl rfl rfl rfl Ab (C1 Pg (Bl rfl rfl rfl Ab ?_)))))))))));refine C1 NK (Bl rfl rfl rfl Ab (cC rfl (MD g.vars S va vc _ ab h.vars (hs.vars.ext x1)) ?_));rintro _ w2 ⟨⟨⟩,x2⟩;cases hq:G7 g.vars
 . try rw [hq]
   refine Bl rfl rfl rfl Ab (C1 Pt (C1 NY (Ak (Ai (G9 rfl (by rfl) ?_)))));refine eK ?_;refine AT results68 rfl ?_;exact ⟨AX (by simp [PG.ok,hq]),x1.trans x2⟩
 try rw [hq]
 have h2:=h1.ext x2;refine Bl rfl rfl rfl Ab (C1 Pt (C1 NY (Ak (Ai (Ha rfl (by rfl) ?_)))));refine eK ?_;refine AQ (ι:=Nat) (λj=>[(24,.int .i64 j),(23,.int .i64 g.procs.length),(22,.slice pa g.procs.length pc),(1,pt b1)]) (λj w'=>Ext w2 w'/\j<=g.procs.length /\ ∀i (hi:i<g.procs.length),i<j->g.procs[i].ok=true) (λj=>g.procs.length-j) 0 sB ⟨Ne _,Ab,Ab⟩ ?_;rintro j w3 ⟨x3,hj,Y⟩;have HA:=gO Y;have G:Ext w w3:=(by refine mh ?_ Ae;refine mh ?_ Ae;assumption)
 by_cases U:j<g.procs.length
 . have ac:PDs S w3 g.procs pa:=hs.procs.ext G;obtain ⟨kb,ko,rfl,-,Z⟩:=mw ac Ab;obtain ⟨qa,qc,ba,bc,rx,sv,sb⟩:=Z j g.procs[j] (gN U);have wf:=h.procs g.procs[j] (ig U);have ad:=wf.name;have ae:=wf.len;have HN:=gO (Q6 U);generalize hv:g.procs[j]=p at *;have HE:=gO hv;refine eK ?_;refine Hc CJ rfl rfl ?_;intro b4 w4 M;refine JC Ac rfl rfl rfl rfl rfl rfl (M) rfl ?_;intro w4 M;have h4:=M.blk;have x4:=M.ext;refine kC (KH p.name _ ad) ?_;rintro _ w5 ⟨⟨⟩,x5⟩;have V:Ext w w5:=G.trans (x4.trans x5);have N:Ext w3 w5:=x4.trans x5;have h5:=h4.ext x5;cases hnm:Cv p.name
   . try rw [hnm]
     refine C1 Pt (C1 Mv (Bh rfl rfl rfl (rfl) rfl (Bh rfl rfl rfl (rfl) rfl (Bh rfl rfl rfl (rfl) rfl (Bh rfl rfl rfl (rfl) rfl (C1 (Co rfl rfl rfl) (C1 Mv (Bh rfl rfl rfl (rfl) rfl (Bh rfl rfl rfl (rfl) rfl (Bh rfl rfl rfl (rfl) rfl (Bh rfl rfl rfl (rfl) rfl ?_)))))))))));refine C1 (Co rfl rfl rfl) (C1 Mv (Bh rfl rfl rfl (rfl) rfl (Bh rfl rfl rfl (rfl) rfl (Bh rfl rfl rfl (rfl) rfl (Bh rfl rfl rfl (rfl) rfl (C1 (Co rfl rfl rfl) (Ak (Ai (G9 rfl (by rfl) ?_)))))))));refine eK ?_;refine AT results68 rfl ?_;exact ⟨AX (by simp [PG.ok,HN.out (by simp [PD.ok,hnm])]),V⟩
   try rw [hnm]
   by_cases c3:8<p.params.length
   . refine C1 Pt (C1 Mv (Bn rfl rfl rfl (rfl) (C1 Pf (Bn rfl rfl rfl (rfl) (C1 NK (Bn rfl rfl rfl (rfl) (C1 Pz (Bn rfl rfl rfl (rfl) (C1 V5 (C1 (BR rfl rfl rfl) (C1 Mv ?_)))))))))));refine BA rfl rfl rfl Ab rfl (BA rfl rfl rfl Ab rfl (BA rfl rfl rfl Ab rfl (BA rfl rfl rfl Ab rfl (C1 aP (C1 Mv (Bh rfl rfl rfl (rfl) rfl (Bh rfl rfl rfl (rfl) rfl (Bh rfl rfl rfl (rfl) rfl (Bh rfl rfl rfl (rfl) rfl (C1 (Co rfl rfl rfl) (Ak ?_)))))))))));refine Ai (G9 rfl (by rfl) ?_);refine eK ?_;refine AT results68 rfl ?_;exact ⟨AX (by simp [PG.ok,HN.out (by simp [PD.ok,hnm];omega)]),V⟩
   refine C1 Pt (C1 Mv (Bn rfl rfl rfl (rfl) (C1 Pf (Bn rfl rfl rfl (rfl) (C1 NK (Bn rfl rfl rfl (rfl) (C1 Pz (Bn rfl rfl rfl (rfl) (C1 V5 (C1 (BR rfl rfl rfl) (C1 Mv ?_)))))))))));refine Bl rfl rfl rfl Ab (C1 Pf (Bl rfl rfl rfl Ab (C1 NK (Bl rfl rfl rfl Ab (cC rfl (MD p.params S qa qc _ ae wf.params (sv.ext N)) ?_)))));rintro _ w6 ⟨⟨⟩,x6⟩;have aa:Ext w w6:=V.trans x6;have O:Ext w3 w6:=N.trans x6;have h6:=h5.ext x6;cases hq2:G7 p.params
   . try rw [hq2]
     refine Bl rfl rfl rfl Ab (C1 Pt (C1 NY (C1 Mv (Bh rfl rfl rfl (rfl) rfl (Bh rfl rfl rfl (rfl) rfl (Bh rfl rfl rfl (rfl) rfl (Bh rfl rfl rfl (rfl) rfl (C1 (Co rfl rfl rfl) (Ak (Ai (G9 rfl (by rfl) ?_)))))))))));refine eK ?_;refine AT results68 rfl ?_;exact ⟨AX (by simp [PG.ok,HN.out (by simp [PD.ok,hq2])]),aa⟩
   try rw [hq2]
   refine Bl rfl rfl rfl Ab (C1 Pt (C1 NY (C1 Mv (Bn rfl rfl rfl (rfl) (C1 Pf (Bn rfl rfl rfl (rfl) ?_))))));refine De (by exact EZ Ac rfl rfl rfl (by exact λwz hz=>by (try subst hz);assumption) (by rfl)) rfl ?_;refine Bn rfl rfl rfl (rfl) (cC rfl (Q5 p.body S ba bc _ wf.body (sb.ext O)) ?_);rintro _ w7 ⟨⟨⟩,x7⟩;have af:Ext w w7:=aa.trans x7;cases hq3:Ff p.body
   . try rw [hq3]
     refine Bn rfl rfl rfl (rfl) (C1 Pt (C1 (BR rfl rfl rfl) (Ak (Ai (G9 rfl (by rfl) ?_)))));refine eK ?_;refine AT results68 rfl ?_;exact ⟨AX (by simp [PG.ok,HN.out (by simp [PD.ok,hq3])]),af⟩
   try rw [hq3]
   have ag:p.ok=true:=by simp [PD.ok,hnm,hq2,hq3];omega
   refine Bn rfl rfl rfl (rfl) (C1 Pt (C1 (BR rfl rfl rfl) (Ak (Ai (Ha rfl (by rfl) ?_)))));refine eK ?_;refine AA (j+1) sB ⟨x3.trans (O.trans x7),Ab,λi hi ai=>?_⟩ Ab;by_cases e:i=j
   . subst e;exact HE.out▸ag
   . exact HA.out i hi Ab
 . have h3:=h2.ext x3;refine Aj (Al (C1 V3 (Ak (Ai (Aj (Dz (B9 (Az (Az (A0 (Ai ?_)))))))))));refine Aj (Al (C1 Pf ?_));refine De (by exact EZ Ac rfl rfl rfl (by exact λwz hz=>by (try subst hz);assumption) (by rfl)) rfl ?_;refine cC rfl (Q5 g.main S ma mc _ h.main (hs.main.ext G)) ?_;rintro _ w4 ⟨⟨⟩,x4⟩;refine eK ?_;refine AT results68 rfl ?_;refine ⟨AX ?_,G.trans x4⟩;have:=SU (λi hi=>HA.out i hi Ab);simp [PG.ok,hq,this];omega
def Ka:∀l:List Nd,0<=Bt l
 | []=>by simp [Bt]
 | t::r=>by have:=Ka r;simp only [Bt];omega
mutual
def Ub:∀(t:Nd) (d m:Int),t.depth<=d->(t.size:Int)<=m->t.lim d m=(true,m-t.size)
 | .mk _ _ _ l,d,m,hd,hm=>by
  simp only [Nd.depth] at hd;simp only [mg] at hm;have h0:0<=Bt l:=Ka l;unfold Nd.lim;rw [At Ab,ME l (d-1) (m-1) Ab Ab];simp only [mg];congr 1;omega
def ME:∀(l:List Nd) (d m:Int),Bt l<=d->(AV l:Int)<=m->C6 l d m=(true,m-AV l)
 | [],d,m,_,_=>by simp [C6,AV]
 | t::r,d,m,hd,hm=>by
  simp only [Bt] at hd;simp only [AV] at hm;have h1:=Ub t d m Ab Ab;unfold C6;rw [h1];simp only [if_true];rw [ME r d _ Ab Ab];simp only [AV];congr 1;omega
end
mutual
def MF:∀(t:Nd) (d m:Int),0<=d->(t.lim d m).1=true->t.depth<=d
 | .mk _ _ s l,d,m,hd,h=>by
  simp only [Nd.lim] at h;split at h
  . simp at h
  . have:=IX l (d-1) (m-1) Ab h;simp only [Nd.depth];omega
def IX:∀(l:List Nd) (d m:Int),0<=d->(C6 l d m).1=true->Bt l<=d
 | [],d,m,hd,_=>by simp only [Bt];exact hd
 | t::r,d,m,hd,h=>by
  simp only [C6] at h;split at h
  . rename_i ht;have h1:=MF t d m hd ht;have h2:=IX r d _ hd h;simp only [Bt];omega
  . simp at h
end
mutual
def Og:∀(t:Nd) (d m:Int),0<=m->(t.lim d m).1=true->(t.size:Int)+(t.lim d m).2<=m
 | .mk _ _ s l,d,m,hm,h=>by
  simp only [Nd.lim] at h ⊢;split at h
  . simp at h
  . rename_i hn;rw [At hn];have:=Kb l (d-1) (m-1) Ab h;simp only [mg];omega
def Kb:∀(l:List Nd) (d m:Int),0<=m->(C6 l d m).1=true->(AV l:Int)+(C6 l d m).2<=m
 | [],d,m,hm,_=>by simp only [C6,AV];omega
 | t::r,d,m,hm,h=>by
  simp only [C6] at h ⊢;split at h
  . rename_i ht;rw [AH ht];have h1:=Og t d m hm ht;have h0:=PK t d m hm;have h2:=Kb r d (t.lim d m).2 h0.1 h;simp only [AV];omega
  . simp at h
end
def body_iff {t:Nd}:Ff t=true↔t.isBlock=true/\t.depth<=80/\t.size<=2000:=by
 constructor
 . intro h;simp only [Ff,gR] at h;have G:=Og t 80 2000 Ab h.1;have M:=PK t 80 2000 Ab;exact ⟨h.2,MF t 80 2000 Ab h.1,Ab⟩
 . rintro ⟨G,M,N⟩;simp only [Ff,gR];refine ⟨?_,G⟩;rw [Ub t 80 2000 M Ab]
def DU (h:g.ok=true):g.vars.length<=32/\g.procs.length<=64/\G7 g.vars=true/\(∀p∈g.procs,p.ok=true)/\Ff g.main=true:=by
 simp only [PG.ok,gR,decide_eq_true_eq] at h;obtain ⟨⟨⟨⟨G,M⟩,N⟩,O⟩,U⟩:=h;exact ⟨G,M,N,iN.1 O,U⟩
def DN {p:PD} (h:p.ok=true):Cv p.name=true/\p.params.length<=8/\G7 p.params=true/\Ff p.body=true:=by
 simp only [PD.ok,gR,decide_eq_true_eq] at h;obtain ⟨⟨⟨G,M⟩,N⟩,O⟩:=h;exact ⟨G,M,N,O⟩
def PD.map (f:Nd->Nd) (p:PD):PD:=⟨p.name,p.params,f p.body⟩
def PG.inv (f:Nd->Nd) (q:Bool) (g:PG):PG:=⟨g.vars,g.procs.map (PD.map f),g.main.inv q⟩
def Vn {f:Nd->Nd} (q:Bool) (h:g.wf) (G:g.ok=true) (N:∀p∈g.procs,(f p.body).wf):(g.inv f q).wf:=by
 obtain ⟨V,X,Y,Z,O⟩:=DU G;refine ⟨h.nv,by simpa [PG.inv] using h.np,h.vars,λp U=>?_,(bJ q (g.main.size+1) g.main Ab (gQ (body_iff.1 O).1)).wf h.main⟩;obtain ⟨x,M,rfl⟩:=List.mem_map.1 U;have:=h.procs x M;exact ⟨this.name,this.len,this.params,N x M⟩
def MG (h:g.ok=true):g.main.isBlock=true:=(body_iff.1 (DU h).2.2.2.2).1
def Xc (h:g.ok=true):∀p∈g.procs,p.body.isBlock=true:=λp G=>(body_iff.1 (DN ((DU h).2.2.2.1 p G)).2.2.2).1
attribute [local irreducible] Go.Calls
def F6 {b:Bool} (G:g.wf) (h:g.ok=b) (S:nP) (M:oA) (vc:Nat) (N:oA) (U:Nat) (O:oA) (V:Nat) (w:wD) (X:g.sits S w M N O) :
 Calls prog 68 #[.agg (g.cells M vc N U O V).toArray] w λe w'=>e = .returned (.bool b)/\Ext w w':=by
 have:=Ze g S M vc N U O V w G X;rw [h] at this;exact this
def PG.sits.ltA {S:nP} {w:wD} {g:PG} {G M N:oA} (h:g.sits S w G M N):g.sits (· < w.heap.size) w G M N:=⟨h.vars.lt2.wide λ_ h=>h.2,h.procs.ltA,Cd _ _ h.main⟩
def SW (f:Nd->Nd) (l:List PD) (j:Nat) (h:j<l.length):(l.take (j+1)).map (PD.map f)=(l.take j).map (PD.map f)++[(l[j]).map f]:=by
 rw [gS h,jm];rfl
def Lq (u:PG) (k:Int) (w:wD):Ending->wD->Prop:=λe w'=> ∃va vc pa pc ma mc,e = .returned (.tuple #[.agg (u.cells va vc pa pc ma mc).toArray,.int .i64 k])/\u.sits (λb=>w.heap.size<=b/\b<w'.heap.size) w' va pa ma/\PDsC (λb=>w.heap.size<=b/\b<w'.heap.size) w' u.procs pa/\u.vars.length<=vc/\Ext w w'
def PDsC.lt2 {S:nP} {w:wD} {l:List PD} {a:oA} (h:PDsC S w l a):PDsC (λb=>S b/\b<w.heap.size) w l a:=by
 rcases h with h|⟨b,o,N,O,M⟩
 . exact gP h
 . cases l with
   | nil=>exact gP rfl
   | cons v r=>
    obtain ⟨_,_,_,_,G,-,-⟩:=M 0 v rfl;refine gQ ⟨b,o,N,⟨O,Cs (mb G rfl)⟩,λi x U=>?_⟩;obtain ⟨V,X,Y,Z,G,hv,hs,hc⟩:=M i x U;exact ⟨V,X,Y,Z,G,hv.lt2,Gq _ _ hs,hc⟩
def Xd {f:Nd->Nd} {q:Bool} {G O:oA} {vc e:Nat} {xs:List PD} {Y S2:nP} (hx:xs=g.procs.map (PD.map f)) (hv:VDs Y w' g.vars G) (hc:g.vars.length<=vc) (ho:OwnL E9 w' n e (.slice N xs.length r) xs) (hm:(g.main.inv q).sits S2 w' O) (X:Ext w w') (k1:∀b,Y b->w.heap.size<=b) (k2:∀b,S2 b->w.heap.size<=b) (kM:w.heap.size<=n) :
 Lq (g.inv f q) 0 w (.returned (.tuple #[.agg #[.slice G g.vars.length vc,.slice N xs.length r,.int .u8 (g.main.inv q).kind,.int .i64 (g.main.inv q).num,str (g.main.inv q).name,.slice O (g.main.inv q).kids.length m],.int .i64 0])) w':=by
 subst hx;have Z:=PDsC.wide (PDsC.lt2 (ho.pdsC (S:=λb=>n<=b) (λb hb=>hb))) (S':=λb=>w.heap.size<=b/\b<w'.heap.size) λb h=>⟨Ab,h.2⟩
 exact ⟨G,vc,N,r,O,m,rfl,⟨hv.lt2.wide λb h=>⟨k1 b h.1,h.2⟩,Z.pds,l6 (Gq _ _ hm) λb h=>⟨k2 b h.1,h.2⟩⟩,Z,hc,X⟩
def SX (q:Bool) (am:Nat) (f:Nd->Nd) (bt:BZ prog am=true) (g:PG) (a0:g.wf) (a1:g.ok=true) (hf:g.few) (hm:g.main.isBlock=true)
 (HB:∀p∈g.procs,∀(S:nP) (a:oA) (c:Nat) (w:wD),p.body.sits S w a->Calls prog am #[p.body.val a c] w (CopyR (f p.body) w))
 (S:nP) (va:oA) (vc:Nat) (pa:oA) (pc:Nat) (ma:oA) (mc:Nat) (w:wD) (hs:g.sits S w va pa ma) :
 Calls prog 71 #[.agg (g.cells va vc pa pc ma mc).toArray,.func (.func am) #[] #[],.bool q] w (Lq (g.inv f q) 0 w):=by
 have X:=Ne w;obtain ⟨nv,np,bu,a2⟩:=hf;have HV:=gO (F6 a0 a1);have HI:=gO (W6 q g.main bu (gQ hm));have HC:=gO (Io g.vars Ab);have HP:=gO HB;have HQ:=gO a2;clear a0 a1 hm HB a2;have hs:=hs.ltA;refine Ad func71 ntmps71 rfl rfl ?_;refine cS (eB [_,_,_,_,_,_] ?_);intro b1 w2 h4 x5 p6 z7;revert X hs;refine eE x5 ?_;intro X hs;refine eA [_,_,_,_,_,_] ?_;intro b8 w9 M bv d4 d5;revert h4 X hs;refine eE bv ?_;intro h4 X hs;refine kC (HV.out _ _ _ _ _ _ _ _ Ae) ?_;rintro _ a3 ⟨⟨⟩,bw⟩;revert M h4 X hs;refine eY bw ?_;intro d6 M h4 X hs;refine C1 Pt (cT (Ba rfl (Ao (Ai ?_))));refine FZ (ι:=Nat×oA×Nat×oA×Nat) (λx=>[(1,.func (.func am) #[] #[]),(3,pt b1),(6,pt b8),(8,pt x.1)])
  (λx w'=>Blk w' x.1 [.slice x.2.1 g.vars.length x.2.2.1,.slice none 0 0,.int .u8 (g.main.inv q).kind,.int .i64 (g.main.inv q).num,str (g.main.inv q).name,.slice x.2.2.2.1 (g.main.inv q).kids.length x.2.2.2.2]/\VDs (λb=>b8<b/\b≠x.1/\b<w'.heap.size) w' g.vars x.2.1/\(g.main.inv q).sits (λb=>b8<b/\b≠x.1/\b<w'.heap.size) w' x.2.2.2.1/\b8<x.1/\x.1<w'.heap.size/\g.vars.length<=x.2.2.1 /\
   Blk w' b1 [.slice va g.vars.length vc,.slice pa g.procs.length pc,.int .u8 g.main.kind,.int .i64 g.main.num,str g.main.name,.slice ma g.main.kids.length mc]/\Blk w' b8 [.slice none 0 0,.slice none 0 0,.int .u8 0,.int .i64 0,str [],.slice none 0 0]/\g.sits (· < w.heap.size) w' va pa ma/\Ext w w') ?_ ?_
 . clear HP HQ HV;have hv:=hs.vars;have ac:=hs.main
   focus
    refine Aq (λwz=>Ext a3 wz) 9 (.pure 0 (.pure 1 (.pure 3 (.pure 4 (.pure 5 (.fork 2 (.fork 6 (.pure 7 (.fork 8 .tail .none)) (.fork 8 (.fork 6 (.pure 7 .tail) .none) .none)) (.fork 8 (.fork 2 (.fork 6 (.pure 7 .tail) .none) .none) .none))))))) mixed AU (Aa Ag) ?_;intro bx a4 _;have G:(λwz=>Ext a3 wz) bx:=a4;simp only at G;have a5:=h4;revert M h4 X hs hv ac;refine eY a4 ?_;intro d7 M h4 X hs hv ac;refine ⟨G,?_⟩;refine eT ?_;refine Tq rfl (xL [_,_,_,_] (λwz hz=>(l9 a5 hz))) (Tq rfl Mv ?_);refine AE rfl (AN AU rfl (HC.out _ _ _ _ Ae) (λ_ _ h=>h.ret)) rfl ?_ aFh ?kra5;rintro _ cb ⟨d8,d9,⟨⟩,ab,bz,cc⟩;revert G M h4 X hs ac;refine eY bz ?_;intro cd G M h4 X hs ac;refine ⟨G,?_⟩;refine AE rfl (AN AU rfl (HI.out _ _ _ _ Ae) (λ_ _ h=>h.ret)) rfl ?_ aFh ?kra13;rintro _ ce ⟨cf,cg,⟨⟩,af,a6⟩;revert ab G M h4 X hs;refine eY a6 ?_;intro ch ab G M h4 X hs;refine ⟨G,?_⟩;refine Tq rfl (xB [_,_,_,_,_,_]) ?_;refine AE rfl (Bb CJ rfl) rfl ?_ aFh AC;rintro _ ci ⟨cj,rfl,ag⟩;have aq:=ag.blk;dsimp only at aq;have a7:=ag.ext;have ck:=ag.pos;have cl:=ag.size;revert af ab G M h4 X hs;refine eE a7 ?_;intro af ab G M h4 X hs;refine ⟨G,?_⟩;refine Ar rfl (eS [_,_,_,_,_,_] aq ?_);intro cm cn a8 co;revert af ab M h4 X hs;refine eF a8 ?_;intro af ab M h4 X hs;refine Ak ?_;rotate_left;refine AE rfl (Bb CJ rfl) rfl ?_ aFh AC;rintro _ cp ⟨cq,rfl,ah⟩;have ai:=ah.blk;dsimp only at ai;have a9:=ah.ext;have cr:=ah.pos;have ct:=ah.size;revert ab G M h4 X hs ac;refine eE a9 ?_;intro ab G M h4 X hs ac;refine ⟨G,?_⟩;refine tC rfl rfl (HI.out _ _ _ _ Ae) ?_;rintro _ cu ⟨cv,cw,⟨⟩,ar,ba⟩;revert ai ab G M h4 X hs;refine eY ba ?_;intro cx ai ab G M h4 X hs;refine ⟨G,?_⟩;refine Tq rfl (xB [_,_,_,_,_,_]) ?_;refine Ar rfl (eS [_,_,_,_,_,_] ai ?_);intro cy cz bb c0;revert ar ab M h4 X hs;refine eF bb ?_;intro ar ab M h4 X hs;refine Ak ?_;rotate_left;refine AE rfl (Bb CJ rfl) rfl ?_ aFh AC;rintro _ c1 ⟨c2,rfl,aj⟩
    have ad:=aj.blk;dsimp only at ad;have bc:=aj.ext;have c3:=aj.pos;have c4:=aj.size;revert G M h4 X hs hv ac;refine eE bc ?_;intro G M h4 X hs hv ac;refine ⟨G,?_⟩;refine tC rfl rfl (HC.out _ _ _ _ Ae) ?_;rintro _ c5 ⟨c6,c7,⟨⟩,ak,bd,c8⟩;revert ad G M h4 X hs ac;refine eY bd ?_;intro c9 ad G M h4 X hs ac;refine ⟨G,?_⟩;refine tC rfl rfl (HI.out _ _ _ _ Ae) ?_;rintro _ da ⟨db,dc,⟨⟩,au,be⟩;revert ak ad G M h4 X hs;refine eY be ?_;intro dd ak ad G M h4 X hs;refine ⟨G,?_⟩;refine Tq rfl (xB [_,_,_,_,_,_]) ?_;refine Ar rfl (eS [_,_,_,_,_,_] ad ?_);intro de df bf dg;revert au ak M h4 X hs;refine eF bf ?_;intro au ak M h4 X hs;refine Ak ?_;rotate_left
   . exact BY (_,_,_,_,_) sB ⟨Ae,mV Ae (λb h=>⟨Ab,Ab,Ab⟩),l6 Ae (λb h=>⟨Ab,Ab,Ab⟩),Ab,Ab,Ae,Ae,Ae,Ae,Ae⟩
   . exact BY (_,_,_,_,_) sB ⟨Ae,mV Ae (λb h=>⟨Ab,Ab,Ab⟩),l6 Ae (λb h=>⟨Ab,Ab,Ab⟩),Ab,Ab,Ae,Ae,Ae,Ae,Ae⟩
   . exact BY (_,_,_,_,_) sB ⟨Ae,mV Ae (λb h=>⟨Ab,Ab,Ab⟩),l6 Ae (λb h=>⟨Ab,Ab,Ab⟩),Ab,Ab,Ae,Ae,Ae,Ae,Ae⟩
 . clear h4 M hs X;rintro ⟨bq,bg,b0,bh,b2⟩ w1 ⟨Y,U,V,o1,o2,bi,Z,aa,hs,X⟩;simp only at Y U V o1 o2 bi;have hp:=hs.procs;have hz:=ip w1.heap.size;clear hs HV HI HC;refine Aj (cS (C1 Pf (C1 (Pl Z) (C1 Pz (C1 Mv (cT (Au ?_)))))));refine AQ (ι:=Nat×List PD×oA×Nat) (λx=>[(1,.func (.func am) #[] #[]),(3,pt b1),(6,pt b8),(8,pt bq),(24,.slice pa g.procs.length pc),(25,.int .i64 g.procs.length),(26,.int .i64 x.1)])
    (λx w'=>OwnL E9 w' w1.heap.size 116 (.slice x.2.2.1 x.2.1.length x.2.2.2) x.2.1/\x.2.1=(g.procs.take x.1).map (PD.map f)/\x.1<=g.procs.length/\Blk w' bq [.slice bg g.vars.length b0,.slice x.2.2.1 x.2.1.length x.2.2.2,.int .u8 (g.main.inv q).kind,.int .i64 (g.main.inv q).num,str (g.main.inv q).name,.slice bh (g.main.inv q).kids.length b2]/\VDs (λb=>b8<b/\b≠bq/\b<w1.heap.size) w' g.vars bg/\(g.main.inv q).sits (λb=>b8<b/\b≠bq/\b<w1.heap.size) w' bh /\
     Blk w' b1 [.slice va g.vars.length vc,.slice pa g.procs.length pc,.int .u8 g.main.kind,.int .i64 g.main.num,str g.main.name,.slice ma g.main.kids.length mc]/\Blk w' b8 [.slice none 0 0,.slice none 0 0,.int .u8 0,.int .i64 0,str [],.slice none 0 0]/\PDs (· < w.heap.size) w' g.procs pa/\Ext w w'/\w1.heap.size<=w'.heap.size)
    (λx=>g.procs.length-x.1) (0,[],none,0) sB ⟨OwnL.nil,AK,ii _,Y,U,V,Z,aa,hp,X,hz⟩ ?_
   clear Y U V Z aa hp X hz;rintro ⟨j,xs,ra,rc⟩ w3 ⟨N,an,hj,Y,U,V,Z,aa,hp,X,hz⟩;simp only at N an hj Y;have bj:∀g',(iD ra xs.length rc).ownBlock=some g'->w1.heap.size<=g'/\g'<w3.heap.size:=λg' h=>⟨N.ge h,N.lt h⟩
   have ea:xs.length<=1000000:=by rw [an,kG,iO];omega
   refine mK (m:=[(1,.func (.func am) #[] #[]),(3,pt b1),(6,pt b8),(8,pt bq),(24,.slice pa g.procs.length pc),(25,.int .i64 g.procs.length),(26,.int .i64 (j:Int))]) ?_ sB;by_cases ap:j<g.procs.length
   . obtain ⟨kb,ko,rfl,kS,hk⟩:=mw hp Ab;obtain ⟨xa,xc,ya,yc,rx,vx,sx⟩:=hk j _ (gN ap);have HX:=gO (HP.out _ (ig ap));have eb:=HQ.out _ (ig ap);have HC:=gO (Io g.procs[j].params Ab);have ay:xs++[(g.procs[j]).map f]=(g.procs.take (j+1)).map (PD.map f):=by rw [an,SW f _ j ap]
     clear hk HP HQ an;generalize g.procs[j]=x at *;refine eK ?_;refine xA [_,_,_,_,_,_] ?_;intro ec ed b3;refine eI [_,_,_,_,_,_] b3 ?_;intro bk bl b4 ee ef;revert N Y U V aa X Z hp vx sx;refine eE b4 ?_;intro N Y U V aa X Z hp vx sx;refine cT (Aq (λwz=>Ext bk wz) 13 (.pure 0 (.pure 1 (.pure 2 (.pure 3 (.pure 4 (.pure 5 (.pure 7 (.pure 8 (.pure 9 (.fork 6 (.fork 10 (.pure 11 (.fork 12 .tail .none)) .none) .none)))))))))) mixed AU (Af (Aa (Aa (Af (Aa Ag))))) ?_);intro b5 av _;have O:(λwz=>Ext bk wz) b5:=av;simp only at O;have az:=bl;have b6:=Y;revert N Y U V aa X Z hp vx sx;refine eY av ?_;intro dh N Y U V aa X Z hp vx sx;refine ⟨O,?_⟩;refine eT ?_;refine Tq rfl (xL [_,_,_,_] (λwz hz=>(l9 az hz))) ?_;refine tC rfl rfl (HC.out _ _ _ _ Ae) ?_;rintro _ di ⟨dk,dl,⟨⟩,ae,bm,dm⟩;revert O N Y U V aa X Z hp sx;refine eY bm ?_;intro dn O N Y U V aa X Z hp sx;refine ⟨O,?_⟩;refine AE rfl (A8 (fi:=[]) (ca:=[]) bt rfl rfl (HX.out _ _ _ _ Ae) (λ_ _ h=>h.ret)) rfl ?_ aFh AC;rintro _ dp ⟨dq,dr,⟨⟩,ao,bn⟩;revert ae O N Y U V aa X Z hp;refine eY bn ?_;intro ds ae O N Y U V aa X Z hp;refine ⟨O,?_⟩;refine Tq rfl (xB [_,_,_,_,_,_]) ?_;refine AE rfl (xS [_,_,_,_,_,_]) rfl ?_ aFh AC;rintro _ dt ⟨du,rfl,al,dv⟩;have bo:=al.blk;have bp:=al.ext;have dw:=al.pos;have dx:=al.size;revert ao ae O N Y U V aa X Z hp;refine eE bp ?_;intro ao ae O N Y U V aa X Z hp;refine ⟨O,?_⟩;refine Ar rfl ?_;refine Ax (GN (sh:=E9) (z:=x.map f) Ac CJ rfl rfl rfl rfl AU rfl rfl rfl Ae (mi Ae) ⟨_,_,_,_,rfl,mV Ae (λb h=>⟨Ab,λe=>by have:=bj _ e;omega⟩),l6 Ae (λb h=>⟨Ab,λe=>by have:=bj _ e;omega⟩),Ae⟩ Ab Ab) rfl ?_ aFh;rintro _ dy ⟨dz,bs,rfl,aw,ax⟩;have d0:=ax.size;clear bo ao ae bl N;revert Y U V aa X Z hp;refine eF ax ?_;intro Y U V aa X Z hp;refine C1 Pf (eV [_] [_,_,_,_,_,_] Y ?_);intro d1 d2 br d3;clear Y;revert aw U V aa X Z hp
     refine eF br ?_;intro aw U V aa X Z hp;refine Ak (Ah (Ai (Al (C1 V7 (C1 Mv (Ak ?_))))));exact AA (j+1,xs++[x.map f],some ⟨_,0,none⟩,_) sB ⟨Ae,ay,by simp only;omega,Ae,U,V,Z,aa,hp,X,Ab⟩ (by simp only;omega)
   . have b7:j=g.procs.length:=by omega
     subst b7;rw [im] at an;refine eK ?_;refine eS [_,_,_,_,_,_] aa ?_;intro eg eh b9 _;revert N U V X;refine eF b9 ?_;intro N U V X;refine C1 Pa (cT (AR ?_));refine C4 rfl Ac rfl rfl rfl Ae rfl rfl ?_;exact Xd an U bi N V X (λb h=>by omega) (λb h=>by omega) Ab
def LU (h:g.ok=true):g.few:=by
 obtain ⟨U,V,-,G,M⟩:=DU h;obtain ⟨-,-,X⟩:=body_iff.1 M;refine ⟨Ab,Ab,Ab,λp N=>?_⟩;obtain ⟨-,Y,-,O⟩:=DN (G p N);obtain ⟨-,-,Z⟩:=body_iff.1 O;exact ⟨Ab,Ab⟩
def PG.inv_id (q:Bool) (g:PG):g.inv id q=⟨g.vars,g.procs,g.main.inv q⟩:=by
 unfold PG.inv;congr 1
 conv=>rhs;rw [<-List.map_id g.procs]
 refine List.map_congr_left λp _=>?_
 obtain ⟨a,b,c⟩:=p;rfl
def bZ (G:g.wf) (h:g.ok=true) (S:nP) (M:oA) (vc:Nat) (N:oA) (V:Nat) (O:oA) (X:Nat) (w:wD) (U:g.sits S w M N O) :
 Calls prog 71 #[.agg (g.cells M vc N V O X).toArray,.func (.func 59) #[] #[],.bool false] w (Lq (g.inv id false) 0 w):=
 SX false 59 id AU g G h (LU h) (MG h) (λp Y S a c w U=>JU p.body ((LU h).procs p Y).2 S a c w U) S M vc N V O X w U
def Oh {u:PG} {M G:oA} {vc:Nat} (V:u.sits (λb=>n<=b/\b<t) w' M G N) (hp:PDsC (λb=>n<=b/\b<t) w' u.procs G) (hc:u.vars.length<=vc) (X:Ext w w') (hl:w.heap.size<=n) (hh:t<=w'.heap.size):Lq u k w (.returned (.tuple #[.agg #[.slice M u.vars.length vc,.slice G u.procs.length r,.int .u8 u.main.kind,.int .i64 u.main.num,str u.main.name,.slice N u.main.kids.length m],.int .i64 k])) w':=
 ⟨M,vc,G,r,N,m,rfl,⟨V.vars.wide λb h=>by omega,PDs.wide V.procs λb h=>by omega,l6 V.main λb h=>by omega⟩,PDsC.wide hp λb h=>by omega,hc,X⟩
def Q7 (u g:PG) (Z:∀(S:nP) (N:oA) (vc:Nat) (O:oA) (pc:Nat) (U:oA) (mc:Nat) (w:wD),g.sits S w N O U ->
      Calls prog 71 #[.agg (g.cells N vc O pc U mc).toArray,.func (.func 59) #[] #[],.bool false] w (Lq u k w))
 (S:nP) (N:oA) (vc:Nat) (O:oA) (pc:Nat) (U:oA) (mc:Nat) (w:wD) (M:g.sits S w N O U) :
 Calls prog 42 #[.agg (g.cells N vc O pc U mc).toArray] w (Lq u k w):=by
 have X:=Ne w;have M:=M.ltA;have Z:=gO Z;refine Ad func42 ntmps42 rfl rfl (cS (eB [_,_,_,_,_,_] ?_));intro b1 w2 h4 x5 p6 z7;revert X M;refine eE x5 ?_;intro X M;refine eA [_,_,_,_,_,_] ?_;intro b8 w9 G aa aj ak;revert h4 X M;refine eE aa ?_;intro h4 X M;refine eK ?_;refine Ax (AN AU rfl (Z.out _ _ _ _ _ _ _ _ Ae) (λ_ _ ⟨_,_,_,_,_,_,h⟩=>⟨_,h.1⟩)) rfl ?_ aFh;rintro _ al ⟨ad,ae,af,ag,ah,ai,⟨⟩,V,Y,am,ab⟩;revert G X;refine eE ab ?_;intro G X;refine eK ?_;refine eS [_,_,_,_,_,_] G ?_;intro an ao ac ap;revert V Y X;refine eF ac ?_;intro V Y X;refine eK ?_;refine C4 rfl Ac rfl rfl rfl Ae rfl rfl ?_;exact Oh Ae Ae Ae X Ab Ab
def Lr (h:g.wf) (G:g.ok=true) (S:nP) (M:oA) (vc:Nat) (N:oA) (U:Nat) (O:oA) (V:Nat) (w:wD) (X:g.sits S w M N O) :
 Calls prog 42 #[.agg (g.cells M vc N U O V).toArray] w (Lq (g.inv id false) 0 w):=Q7 _ g (bZ h G) S M vc N U O V w X
def LenR (n:Nat) (w:wD):Ending->wD->Prop:=λe w'=> ∃a c,e = .returned (.slice a n c)/\Ext w w'
def LenR.ret (h:LenR n w e w'):∃v,e = .returned v:=by
 obtain ⟨_,_,h,-⟩:=h;exact ⟨_,h⟩
def VDs.take {S:nP} {w:wD} {l:List VD} {a:oA} (h:VDs S w l a) (i:Nat):VDs S w (l.take i) a:=by
 rcases h with h|⟨b,o,M,N,O⟩
 . exact gP (by rw [h];simp)
 . refine gQ ⟨b,o,M,N,λj v G=>O j v ?_⟩;rw [lH] at G;split at G
   . exact G
   . cases G
def KM (ps:List PD) (K:Nat):∀(l:List PD) (i:Nat),(∀(i:Nat) (p:PD),p∈l->MC ps i p<=K)->DR ps i l<=l.length*K
 | [],_,_=>by simp [DR]
 | p::r,i,h=>by
  have G:=h i p AK;have N:=KM ps K r (i+1) (λi q M=>h i q (by simp [M]));unfold MC at G;simp only [DR,gV,jQ];omega
def MH {w1:wD} {M:Value} (x:Fr (λk=>k=r\/v.ownBlock=some k) w w') (h:∀g,M.ownBlock=some g->v.ownBlock=some g\/w1.heap.size<=g) (O:w.heap.size<=w1.heap.size):Eff r w v w' M:=⟨x,λg N=>(h g N).imp id λh=>by omega⟩
def Q8 {b:Nat} (h:Blk w b [v]) (G:mq v=true):PathAt (λ_=>True) w (some ⟨b,0,none⟩) 1 1:=⟨⟨ip _,λe=>by cases e⟩,[v],rfl,by simp [G],gQ ⟨b,0,rfl,trivial,h.row⟩⟩
set_option maxHeartbeats 8000000 in
def Kc (g:PG) (cu:g.wf) (bt:g.ok=true) (S:nP) (va:oA) (vc:Nat) (pa:oA) (pc:Nat) (ma:oA) (mc:Nat) (w:wD) (hs:g.sits S w va pa ma) (G:PDsC S w g.procs pa) (cv:g.vars.length<=vc) :
 Calls prog 69 #[.agg (g.cells va vc pa pc ma mc).toArray] w (LenR g.flt w):=by
 have dq:=LU bt;have HV:=gO (F6 cu bt);have O:=hs.vars.ltV;have U:=Cd _ _ hs.main;have G:=G.ltA;have hs:=hs.ltA;have X:=Ne w;refine Ad func69 ntmps69 rfl rfl ?_;refine cS (eB [_,_,_,_,_,_] ?_);intro b1 w2 h4 x5 p6 z7;revert O U G hs X;refine eE x5 ?_;intro O U G hs X;refine eK ?_;refine cC rfl (HV.out _ _ _ _ _ _ _ _ Ae) ?_;rintro _ w9 ⟨⟨⟩,x8⟩;revert h4 O U G hs X;refine eY x8 ?_;intro e6 h4 O U G hs X;refine eK ?_;refine eA [_] ?_;intro Z e7 bu cw e8 e9;revert h4 O U G hs X;refine eE cw ?_;intro h4 O U G hs X;refine cN (C1 (B6 rfl) (xA [_] ?_));intro ai fa cx;refine eI [_] cx ?_;intro bv V cy fb fc;revert bu h4 O U G hs X;refine eE cy ?_;intro bu h4 O U G hs X;refine cT (Aj (cS (C1 Pg (C1 (Pl h4) (C1 Pz (C1 Mv (cT ?_)))))));obtain ⟨o1,o2,-,o4,o5⟩:=DU bt;have cz:FS w.heap.size Z 0 bv (.slice none 0 0):=⟨bu,mP,by simp [jB],Ab⟩;have k1:Kp Z bv (.slice none 0 0) b1:=⟨Ab,Ab,by simp [jB]⟩;have kR:Kp Z bv (.slice none 0 0) ai:=⟨Ab,Ab,by simp [jB]⟩;refine Au ?_;refine AQ (ι:=Nat×Value) (λx=>[(1,pt b1),(3,pt Z),(4,pt ai),(16,.slice va g.vars.length vc),(17,.int .i64 g.vars.length),(18,.int .i64 x.1)])
  (λx w'=>x.1<=g.vars.length/\FS w.heap.size Z (Cu [] (g.vars.take x.1)) w' x.2/\Kp Z w' x.2 b1/\Kp Z w' x.2 ai/\Blk w' ai [Mz Z]/\Blk w' b1 (g.cells va vc pa pc ma mc)/\VDs (· < w.heap.size) w' g.vars va/\g.main.sits (· < w.heap.size) w' ma/\PDsC (· < w.heap.size) w' g.procs pa/\Ext w w')
  (λx=>g.vars.length-x.1) (0,.slice none 0 0) sB ⟨ii _,cz,k1,kR,V,h4,O,U,G,X⟩ ?_
 rintro ⟨j,vj⟩ w3 ⟨hj,hF,k1,kR,V,h4,O,U,G,X⟩;simp only at hj hF k1 kR V h4 O U G X;by_cases ap:j<g.vars.length
 . have N:∀q,vj.ownBlock=some q->w.heap.size<=q/\q<w3.heap.size/\q≠b1/\q≠ai:=λq hq=>⟨hF.own.ge hq,hF.own.lt hq,λe=>k1.2.2 (e▸hq),λe=>kR.2.2 (e▸hq)⟩
   have ax:=k1.not;have ay:=kR.not;have bw:=k1.1;have bx:=kR.1;have bp:=hF.cell.lt;have b6:=X.size;obtain ⟨kb,ko,rfl,kS,az⟩:=O.get (by intro e;rw [e] at ap;simp at ap);have r0:=az j g.vars[j] (gN ap);have bz:(g.vars.take j).length=j:=by simp;omega
   have c0:=Fu (g.vars.take j) [];have ad:=O.take j;have a0:=gO (PH (g.vars.take j) Ab g.vars[j].name);rw [bz] at a0;have a1:=Hv g.vars [] j ap;rw [jJ] at a1;have ak:=gO (λ(w':wD) (x:Ext w3 w') (S:nP) (qa:oA) (qn qc:Nat) (hq:qn<=1000000) (p:PathAt S w' qa qn qc)=>Hu w.heap.size Z (Cu [] (g.vars.take j)) vj (-1) (Fd (g.vars.take j) g.vars[j].name) g.vars[j].name S qa qn qc w' Ab hq p (hF.ext x));rw [<-a1] at ak;have hm:(j:Int)=(j:Int):=rfl;generalize g.vars[j]=x at *;obtain ⟨xn,xk,xl⟩:=x;dsimp only at a0 ak;replace r0:Row w3 ⟨kb,ko+j*3,none⟩ [str xn,.int .u8 xk,.int .i64 xl]:=r0;generalize Fd (g.vars.take j) xn=ex at *;unfold Mz at V;have X3:=Ne w3;have X4:=lZ (λk=>k=Z\/vj.ownBlock=some k) w3
   focus
    refine eK ?_;refine eA [_,_,_] ?_;intro fd fe c5 c6 ff fg;revert V U G X h4 O ad r0 X3 X4;refine eE c6 ?_;intro V U G X h4 O ad r0 X3 X4;refine C1 Pa (eS [_,_,_] c5 ?_);intro b7 ag b8 dr;revert V U G X h4 O ad r0 X3 X4;refine eF b8 ?_;intro V U G X h4 O ad r0 X3 X4;refine cT (Aq (λwz=>Ext b7 wz) 12 (.pure 0 (.pure 1 (.pure 3 (.pure 4 (.pure 5 (.pure 6 (.pure 7 (.pure 8 (.pure 9 (.pure 10 (.fork 2 (.fork 11 .tail .none) (.fork 11 (.fork 2 .tail .none) .none)))))))))))) mixed AU (Af (Aa (Aa (Af (Aa Ag))))) ?_);intro b9 bq _;have af:(λwz=>Ext b7 wz) b9:=bq;simp only at af;have bl:=ag;have bb:=V;have bd:=U;have be:=G;have bf:=h4;have bg:=O;have b0:=ad;have br:=r0;revert ag V U G X h4 O ad r0 X3 X4;refine eY bq ?_;intro ds ag V U G X h4 O ad r0 X3 X4;refine ⟨af,?_⟩;refine eT ?_;refine Tq rfl (DM Ac rfl rfl rfl rfl hm Ab) (Tq rfl Pg (Tq rfl (Db bl) ?_));refine AE rfl (xS [_]) rfl ?_ aFh ?kra18;rintro _ dt ⟨du,rfl,a7,dv⟩;have a2:=a7.blk;dsimp only at a2;have cb:=a7.ext;have dw:=a7.pos;have dx:=a7.size;revert af ag V U G X h4 O ad r0 X3 X4;refine eE cb ?_;intro af ag V U G X h4 O ad r0 X3 X4;refine ⟨af,?_⟩;refine tC rfl rfl (a0.out _ _ _ _ ad) ?_;rintro _ dy ⟨⟨⟩,cc⟩;revert a2 af ag V U G X h4 O ad r0 X3 X4;refine eY cc ?_;intro dz a2 af ag V U G X h4 O ad r0 X3 X4;refine ⟨af,?_⟩;refine Ar rfl ?_;refine Ax (A8 (fi:=[]) (ca:=[pt Z]) AU rfl rfl (ak.out _ Ae _ _ _ _ Ab (Q8 Ae rfl)) (λ_ _ h=>h.ret)) rfl ?_ aFh;rintro _ d0 ⟨⟨⟩,c7,d2,al,d3⟩;have d4:=al.size;have a2:=lY a2 al (λh=>by (rcases h with h|h;omega;have:=N _ h;omega));have ag:=lY ag al (λh=>by (rcases h with h|h;omega;have:=N _ h;omega));have V:=lY V al (ay);have U:=lW U al (λb hb h=>by (rcases h with h|h;omega;have:=N _ h;omega));have G:=PDsC.fr G al (λb hb h=>by (rcases h with h|h;omega;have:=N _ h;omega));have X:=me X al (λk hk=>by (rcases hk with h|h;omega;have:=N _ h;omega));have h4:=lY h4 al (ax);have O:=mB O al (λb hb h=>by (rcases h with h|h;omega;have:=N _ h;omega))
    have ad:=mB ad al (λb hb h=>by (rcases h with h|h;omega;have:=N _ h;omega));have X4:=l8 X4 al (λk hk=>gP hk);refine Ak (Ah (Ai (Al (C1 V7 (C1 Mv (Ak ?_))))));rotate_left;refine tC rfl rfl (a0.out _ _ _ _ ad) ?_;rintro _ d5 ⟨⟨⟩,cd⟩;revert af ag V U G X h4 O ad r0 X3 X4;refine eY cd ?_;intro d6 af ag V U G X h4 O ad r0 X3 X4;refine ⟨af,?_⟩;refine AE rfl (xS [_]) rfl ?_ aFh AC;rintro _ d7 ⟨d8,rfl,a8,d9⟩;have bh:=a8.blk;dsimp only at bh;have ce:=a8.ext;have ea:=a8.pos;have eb:=a8.size;revert af ag V U G X h4 O ad r0 X3 X4;refine eE ce ?_;intro af ag V U G X h4 O ad r0 X3 X4;refine ⟨af,?_⟩;refine Ar rfl ?_;refine Ax (A8 (fi:=[]) (ca:=[pt Z]) AU rfl rfl (ak.out _ Ae _ _ _ _ Ab (Q8 Ae rfl)) (λ_ _ h=>h.ret)) rfl ?_ aFh;rintro _ ec ⟨⟨⟩,c8,ed,am,ee⟩;have ef:=am.size;have bh:=lY bh am (λh=>by (rcases h with h|h;omega;have:=N _ h;omega));have ag:=lY ag am (λh=>by (rcases h with h|h;omega;have:=N _ h;omega));have V:=lY V am (ay);have U:=lW U am (λb hb h=>by (rcases h with h|h;omega;have:=N _ h;omega));have G:=PDsC.fr G am (λb hb h=>by (rcases h with h|h;omega;have:=N _ h;omega));have X:=me X am (λk hk=>by (rcases hk with h|h;omega;have:=N _ h;omega));have h4:=lY h4 am (ax);have O:=mB O am (λb hb h=>by (rcases h with h|h;omega;have:=N _ h;omega));have ad:=mB ad am (λb hb h=>by (rcases h with h|h;omega;have:=N _ h;omega));have X4:=l8 X4 am (λk hk=>gP hk);refine Ak (Ah (Ai (Al (C1 V7 (C1 Mv (Ak ?_))))));rotate_left
   . have e4:=MH X4 Ae Ab;exact AA (j+1,_) sB ⟨by simp only;omega,Ae,k1.eff e4,kR.eff e4,V,h4,O,U,G,X⟩ (by simp only;omega)
   . have e4:=MH X4 Ae Ab;exact AA (j+1,_) sB ⟨by simp only;omega,Ae,k1.eff e4,kR.eff e4,V,h4,O,U,G,X⟩ (by simp only;omega)
 . obtain rfl:j=g.vars.length:=by omega
   rw [im] at hF;refine cS (C1 V3 (cT (Aj (Dz (B9 (Az (Az (A0 (Ai (Aj (cS ?_)))))))))));refine C1 Pf (C1 (Pl h4) (C1 Pz (C1 Mv (cT ?_))));refine Au ?_;refine AQ (ι:=Nat×Value) (λx=>[(1,pt b1),(3,pt Z),(4,pt ai),(38,.slice pa g.procs.length pc),(39,.int .i64 g.procs.length),(40,.int .i64 x.1)])
    (λx w'=>x.1<=g.procs.length/\FS w.heap.size Z (Cu [] g.vars+DR g.procs 0 (g.procs.take x.1)) w' x.2/\Kp Z w' x.2 b1/\Kp Z w' x.2 ai/\Blk w' ai [Mz Z]/\Blk w' b1 (g.cells va vc pa pc ma mc)/\VDs (· < w.heap.size) w' g.vars va/\g.main.sits (· < w.heap.size) w' ma/\PDsC (· < w.heap.size) w' g.procs pa/\Ext w w')
    (λx=>g.procs.length-x.1) (0,vj) sB ⟨ii _,hF,k1,kR,V,h4,O,U,G,X⟩ ?_
   rintro ⟨j,vj⟩ w3 ⟨hj,hF,k1,kR,V,h4,O,U,G,X⟩;simp only at hj hF k1 kR V h4 O U G X;have c0:=Fu g.vars [];by_cases ap:j<g.procs.length
   . have N:∀q,vj.ownBlock=some q->w.heap.size<=q/\q<w3.heap.size/\q≠b1/\q≠ai:=λq hq=>⟨hF.own.ge hq,hF.own.lt hq,λe=>k1.2.2 (e▸hq),λe=>kR.2.2 (e▸hq)⟩
     have ax:=k1.not;have ay:=kR.not;have bw:=k1.1;have bx:=kR.1;have bp:=hF.cell.lt;have b6:=X.size;have cf:=KM g.procs 2009 (g.procs.take j) 0 (λi p hp=>by
      obtain ⟨c1,c2,-,c4⟩:=DN (o4 p (jz hp));obtain ⟨-,-,c3⟩:=body_iff.1 c4;have h1:=Fu p.params [];have h2:=SS g.procs p.body p.params;unfold MC;split<;>omega)
     have c9:(g.procs.take j).length*2009<=64*2009:=jD _ (by simp;omega);have a1:=Lp g.procs g.procs 0 j ap;rw [iY] at a1;have da:=Xa ap;obtain ⟨c1,c2,-,c4⟩:=DN (o4 _ (ig ap));obtain ⟨-,-,c3⟩:=body_iff.1 c4;have ae:=G.pds;obtain ⟨kb,ko,rfl,kS,az⟩:=G.get (by intro e;rw [e] at ap;simp at ap);obtain ⟨qa,qc,ba,bc,r0,ab,ac,db⟩:=az j g.procs[j] (gN ap);have dc:=gO (PI g Ab g.procs[j].name (· < w.heap.size) va vc (some ⟨kb,ko,none⟩) pc ma mc);generalize hM:Cu [] g.vars+DR g.procs 0 (g.procs.take j)=M at *;have fh:M<=1000000:=by omega
     generalize Gx g.procs g.procs[j].name=np at *;generalize g.procs[j]=x at *;refine eK ?_;refine eA [_] ?_;intro av fj b2 dd fk fl;revert V O U X h4 G ae hF r0 ab ac;refine eE dd ?_;intro V O U X h4 G ae hF r0 ab ac;refine eA [_,_,_,_,_,_] ?_;intro a3 eg bi cg eh ei;revert b2 V O U X h4 G ae hF r0 ab ac;refine eE cg ?_;intro b2 V O U X h4 G ae hF r0 ab ac;refine eS [_] b2 ?_;intro ej Y bj ek;revert bi V O U X h4 G ae;refine eF bj ?_;intro bi V O U X h4 G ae;have hF:=FS.fr hF bj (λk hk=>⟨Ab,λe=>by have:=N _ e;omega⟩);revert r0 ab ac;refine eF bj ?_;intro r0 ab ac;refine eS [_,_,_,_,_,_] bi ?_;intro an aa bk el;revert Y V O U X h4 G ae;refine eF bk ?_;intro Y V O U X h4 G ae;have hF:=FS.fr hF bk (λk hk=>⟨Ab,λe=>by have:=N _ e;omega⟩);revert r0 ab ac;refine eF bk ?_;intro r0 ab ac;refine cT (Aj ?_);have aq:Kp Z an vj av:=⟨Ab,Ab,λe=>by have:=N _ e;omega⟩;have aw:Kp Z an vj a3:=⟨Ab,Ab,λe=>by have:=N _ e;omega⟩;have k1:=k1.grow (w':=an) Ab;have kR:=kR.grow (w':=an) Ab;have ak:=gO (λ(w':wD) (x':Ext an w')=>Hu w.heap.size Z M vj j 22 x.name (λ_=>True) none 0 0 w' Ab Ab PathAt.nil (hF.ext x'));rw [show M+O9 22=M+1 from rfl] at ak;refine DD (ι:=Value) (λ_=>[(1,pt b1),(3,pt Z),(4,pt ai),(38,.slice (some ⟨kb,ko,none⟩) g.procs.length pc),(39,.int .i64 g.procs.length),(40,.int .i64 j),(7,pt av),(8,pt a3)]) (λv2 w'=>FS w.heap.size Z (M+(if np<(j:Int) then 1 else 0)) w' v2/\Kp Z w' v2 b1/\Kp Z w' v2 ai/\Kp Z w' v2 av/\Kp Z w' v2 a3/\Blk w' ai [Mz Z]/\Blk w' b1 (g.cells va vc (some ⟨kb,ko,none⟩) pc ma mc)/\VDs (· < w.heap.size) w' g.vars va/\g.main.sits (· < w.heap.size) w' ma/\PDsC (· < w.heap.size) w' g.procs (some ⟨kb,ko,none⟩)/\Ext w w'/\Blk w' av [.int .i64 j]/\Blk w' a3 (x.cells qa qc ba bc)/\VDs (· < w.heap.size) w' x.params qa/\x.body.sits (· < w.heap.size) w' ba) ?_ ?_
     . have X3:=Ne an;have X4:=lZ (λk=>k=Z\/vj.ownBlock=some k) an;unfold Mz at V
       focus
        refine Aj (Aq (λwz=>Ext an wz) 5 (.pure 0 (.pure 1 (.pure 2 (.pure 4 (.fork 3 .tail .none))))) mixed AU (Aa (Aa (Af (Aa (Aa (Af (Aa Ag))))))) ?_);intro de ch _;have a4:(λwz=>Ext an wz) de:=ch;simp only at a4;have bm:=aa;have bn:=Y;have bb:=V;have bg:=O;have bd:=U;have bf:=h4;have be:=G;have ct:=ae;have em:=hF;have br:=r0;have b3:=ab;have b4:=ac;revert aa Y V O U X h4 G ae hF r0 ab ac X3 X4;refine eY ch ?_;intro fm aa Y V O U X h4 G ae hF r0 ab ac X3 X4;refine ⟨a4,?_⟩;refine Tq rfl (xL [_,_,_,_,_,_] (λwz hz=>(l9 bf hz))) ?_;refine eT ?_;refine tC rfl rfl (dc.out _ Ae) ?_;rintro _ fo ⟨⟨⟩,df⟩;revert a4 aa Y V O U X h4 G ae hF r0 ab ac X3 X4;refine eY df ?_;intro fp a4 aa Y V O U X h4 G ae hF r0 ab ac X3 X4;refine ⟨a4,?_⟩;refine Ar rfl ?_;refine eK ?_;refine Ay rfl (λdg=>?_) (λdg=>?_);refine eK ?_;refine Ax (A8 (fi:=[]) (ca:=[pt Z]) AU rfl rfl (ak.out _ Ae) (λ_ _ h=>h.ret)) rfl ?_ aFh;rintro _ en ⟨⟨⟩,dh,eo,aj,ep⟩;have eq:=aj.size;have aa:=lY aa aj (λh=>by (rcases h with h|h;omega;have:=N _ h;omega));have Y:=lY Y aj (λh=>by (rcases h with h|h;omega;have:=N _ h;omega));have V:=lY V aj (ay);have O:=mB O aj (λb hb h=>by (rcases h with h|h;omega;have:=N _ h;omega));have U:=lW U aj (λb hb h=>by (rcases h with h|h;omega;have:=N _ h;omega));have X:=me X aj (λk hk=>by (rcases hk with h|h;omega;have:=N _ h;omega));have h4:=lY h4 aj (ax);have G:=PDsC.fr G aj (λb hb h=>by (rcases h with h|h;omega;have:=N _ h;omega));have ae:=PDs.fr ae aj (λb hb h=>by (rcases h with h|h;omega;have:=N _ h;omega));have ab:=mB ab aj (λb hb h=>by (rcases h with h|h;omega;have:=N _ h;omega));have ac:=lW ac aj (λb hb h=>by (rcases h with h|h;omega;have:=N _ h;omega));have X4:=l8 X4 aj (λk hk=>gP hk);refine Ak ?_;rotate_left;refine Ao ?_;rotate_left
       . have e4:=MH X4 Ae Ab;exact BY _ sB ⟨by rw [AH Ae];assumption,k1.eff e4,kR.eff e4,aq.eff e4,aw.eff e4,V,h4,O,U,G,X,Y,aa,ab,ac⟩
       . exact BY vj sB ⟨by rw [At Ae];exact hF,k1.grow Ab,kR.grow Ab,aq.grow Ab,aw.grow Ab,V,h4,O,U,G,X,Y,aa,ab,ac⟩
     . rintro v2 w4 ⟨hF,k1,kR,aq,aw,V,h4,O,U,G,X,Y,aa,ab,ac⟩;obtain ⟨d1,b5⟩:∃d1:Nat,d1=(if np<(j:Int) then 1 else 0):=⟨_,rfl⟩
       have er:d1<=1:=by rw [b5];split<;>omega
       rw [<-b5] at hF;refine Aj (cS (C1 Pf (C1 (Pl aa) (C1 Pz (C1 Mv (cT ?_))))));refine Au ?_;refine AQ (ι:=Nat×Value) (λy=>[(1,pt b1),(3,pt Z),(4,pt ai),(38,.slice (some ⟨kb,ko,none⟩) g.procs.length pc),(39,.int .i64 g.procs.length),(40,.int .i64 j),(7,pt av),(8,pt a3),(57,.slice qa x.params.length qc),(58,.int .i64 x.params.length),(59,.int .i64 y.1)])
        (λy w'=>y.1<=x.params.length/\FS w.heap.size Z (M+d1+Cu [] (x.params.take y.1)) w' y.2/\Kp Z w' y.2 b1/\Kp Z w' y.2 ai/\Kp Z w' y.2 av/\Kp Z w' y.2 a3/\Blk w' ai [Mz Z]/\Blk w' b1 (g.cells va vc (some ⟨kb,ko,none⟩) pc ma mc)/\VDs (· < w.heap.size) w' g.vars va/\g.main.sits (· < w.heap.size) w' ma/\PDsC (· < w.heap.size) w' g.procs (some ⟨kb,ko,none⟩)/\Ext w w'/\Blk w' av [.int .i64 j]/\Blk w' a3 (x.cells qa qc ba bc)/\VDs (· < w.heap.size) w' x.params qa/\x.body.sits (· < w.heap.size) w' ba)
        (λy=>x.params.length-y.1) (0,v2) sB ⟨ii _,hF,k1,kR,aq,aw,V,h4,O,U,G,X,Y,aa,ab,ac⟩ ?_
       rintro ⟨i,vi⟩ w5 ⟨hi,hF,k1,kR,aq,aw,V,h4,O,U,G,X,Y,aa,ab,ac⟩;simp only at hi hF k1 kR aq aw V h4 O U G X Y aa ab ac;have di:=Fu (x.params.take i) [];have N:∀q,vi.ownBlock=some q->w.heap.size<=q/\q<w5.heap.size/\q≠b1/\q≠ai/\q≠av/\q≠a3:=λq hq=>⟨hF.own.ge hq,hF.own.lt hq,λe=>k1.2.2 (e▸hq),λe=>kR.2.2 (e▸hq),λe=>aq.2.2 (e▸hq),λe=>aw.2.2 (e▸hq)⟩
       have ax:=k1.not;have ay:=kR.not;have bw:=k1.1;have bx:=kR.1;have ci:=aq.not;have cj:=aw.not;have fq:=aq.1;have fs:=aw.1;have et:=hF.cell.lt;by_cases a9:i<x.params.length
       . obtain ⟨zb,zo,rfl,zS,az⟩:=ab.get (by intro e;rw [e] at a9;simp at a9);have r0:=az i x.params[i] (gN a9);have bz:(x.params.take i).length=i:=by simp;omega
         have ad:=ab.take i;have a0:=gO (PH (x.params.take i) Ab x.params[i].name);rw [bz] at a0;have a1:=Hv x.params [] i a9;rw [jJ] at a1;have ck:M+d1+Cu [] (x.params.take (i+1))=M+d1+Cu [] (x.params.take i)+O9 (Fd (x.params.take i) x.params[i].name):=by rw [a1];omega
         have ak:=gO (λ(w':wD) (x':Ext w5 w')=>Hu w.heap.size Z (M+d1+Cu [] (x.params.take i)) vi j (Fd (x.params.take i) x.params[i].name) x.params[i].name (λ_=>True) none 0 0 w' Ab Ab PathAt.nil (hF.ext x'));rw [<-ck] at ak;have hm:(i:Int)=(i:Int):=rfl;generalize x.params[i]=y at *;obtain ⟨yn,yk,yl⟩:=y;dsimp only at a0 ak;replace r0:Row w5 ⟨zb,zo+i*3,none⟩ [str yn,.int .u8 yk,.int .i64 yl]:=r0;generalize Fd (x.params.take i) yn=ex at *;unfold Mz at V;have X3:=Ne w5;have X4:=lZ (λk=>k=Z\/vi.ownBlock=some k) w5;refine eK ?_;refine eA [_,_,_] ?_;intro ft fu dk dl fv fw;revert V h4 O U G X Y ac aa ab ad r0 X3 X4;refine eE dl ?_;intro V h4 O U G X Y ac aa ab ad r0 X3 X4;refine C1 Pa (eS [_,_,_] dk ?_);intro cl ar cm eu;revert V h4 O U G X Y ac aa ab ad r0 X3 X4;refine eF cm ?_;intro V h4 O U G X Y ac aa ab ad r0 X3 X4;refine cT (Aq (λwz=>Ext cl wz) 11 (.pure 0 (.pure 1 (.pure 2 (.pure 3 (.pure 4 (.pure 5 (.pure 6 (.pure 7 (.pure 8 (.pure 9 (.fork 10 .tail .none))))))))))) mixed AU (Af (Aa (Aa (Af (Aa (Af (Aa (Aa (Af (Aa Ag)))))))))) ?_);intro cn bs _;have au:(λwz=>Ext cl wz) cn:=bs;simp only at au;have bo:=ar;have bb:=V;have bf:=h4;have bg:=O;have bd:=U;have be:=G;have bn:=Y;have b4:=ac;have bm:=aa;have b3:=ab;have b0:=ad;have br:=r0;revert ar V h4 O U G X Y ac aa ab ad r0 X3 X4;refine eY bs ?_;intro ew ar V h4 O U G X Y ac aa ab ad r0 X3 X4;refine ⟨au,?_⟩;refine eT ?_;refine Tq rfl (DM Ac rfl rfl rfl rfl hm Ab) (Tq rfl Pg (Tq rfl (Db bo) ?_));refine tC rfl rfl (a0.out _ _ _ _ ad) ?_
         rintro _ ey ⟨⟨⟩,co⟩;revert au ar V h4 O U G X Y ac aa ab ad r0 X3 X4;refine eY co ?_;intro ez au ar V h4 O U G X Y ac aa ab ad r0 X3 X4;refine ⟨au,?_⟩;refine Ar rfl ?_;refine Ax (A8 (fi:=[]) (ca:=[pt Z]) AU rfl rfl (ak.out _ Ae) (λ_ _ h=>h.ret)) rfl ?_ aFh;rintro _ e0 ⟨⟨⟩,dm,e1,ah,e2⟩;have e3:=ah.size;have ar:=lY ar ah (λh=>by (rcases h with h|h;omega;have:=N _ h;omega));have V:=lY V ah (ay);have h4:=lY h4 ah (ax);have O:=mB O ah (λb hb h=>by (rcases h with h|h;omega;have:=N _ h;omega));have U:=lW U ah (λb hb h=>by (rcases h with h|h;omega;have:=N _ h;omega));have G:=PDsC.fr G ah (λb hb h=>by (rcases h with h|h;omega;have:=N _ h;omega));have X:=me X ah (λk hk=>by (rcases hk with h|h;omega;have:=N _ h;omega));have Y:=lY Y ah (ci);have ac:=lW ac ah (λb hb h=>by (rcases h with h|h;omega;have:=N _ h;omega));have aa:=lY aa ah (cj);have ab:=mB ab ah (λb hb h=>by (rcases h with h|h;omega;have:=N _ h;omega));have ad:=mB ad ah (λb hb h=>by (rcases h with h|h;omega;have:=N _ h;omega));have X4:=l8 X4 ah (λk hk=>gP hk);refine Ak (Ah (Ai (Al (C1 V7 (C1 Mv (Ak ?_))))))
         have e4:=MH X4 Ae Ab;exact AA (i+1,_) sB ⟨by simp only;omega,Ae,k1.eff e4,kR.eff e4,aq.eff e4,aw.eff e4,V,h4,O,U,G,X,Y,aa,ab,ac⟩ (by simp only;omega)
       . obtain rfl:i=x.params.length:=by omega
         rw [im] at hF di;have a5:=gO (λ(w':wD) (x':Ext w5 w') (h1:x.body.sits (· < w.heap.size) w' ba) (h2:PDs (· < w.heap.size) w' g.procs (some ⟨kb,ko,none⟩)) (h3:VDs (· < w.heap.size) w' x.params qa)=>
          Q2 w.heap.size Z Ab 108 [pt ai,pt av] AU _ (Vk w.heap.size Z ai av j) g Ab va vc (some ⟨kb,ko,none⟩) pc ma mc (x.body.size+1)
           x.body x.params (· < w.heap.size) (λ_=>False) ba bc qa qc none 0 0 w' vi (M+d1+Cu [] x.params) Ab Ab Ab Ab h1 h2 h3 db PathAt.nil
           (λb hb=>⟨by have:=x'.size;have:=X.size;omega,Ab,λe=>by have:=N _ e;omega⟩) (λ_ h=>h.elim) (hF.ext x') ⟨V.ext x',Y.ext x',kR.grow x'.size,aq.grow x'.size⟩)
         have cp:M+d1+Cu [] x.params+x.body.flt g.procs x.params=Cu [] g.vars+DR g.procs 0 (g.procs.take (j+1)):=by
          have dn:d1=if (Cg g.procs x.name).getD j<j then 1 else 0:=by
           rw [b5];have h:=decide_eq_decide.1 da;by_cases h1:np<(j:Int)
           . rw [AH h1,AH (h.1 h1)]
           . rw [At h1,At (λe=>h1 (h.2 e))]
          rw [a1,dn,MC];omega
         rw [cp] at a5;have ae:=G.pds;have X3:=Ne w5;have X4:=lZ (λk=>k=Z\/vi.ownBlock=some k) w5;refine eK ?_;refine C1 (B6 rfl) (cC rfl (a5.out _ Ae Ae Ae Ae) ?_);rintro _ fx ⟨⟨⟩,e5,fy,ao,fz⟩;have f0:=ao.size;have V:=lY V ao (ay);have h4:=lY h4 ao (ax);have O:=mB O ao (λb hb h=>by (rcases h with h|h;omega;have:=N _ h;omega));have U:=lW U ao (λb hb h=>by (rcases h with h|h;omega;have:=N _ h;omega));have G:=PDsC.fr G ao (λb hb h=>by (rcases h with h|h;omega;have:=N _ h;omega));have X:=me X ao (λk hk=>by (rcases hk with h|h;omega;have:=N _ h;omega));have Y:=lY Y ao (ci);have aa:=lY aa ao (cj);have ab:=mB ab ao (λb hb h=>by (rcases h with h|h;omega;have:=N _ h;omega));have ac:=lW ac ao (λb hb h=>by (rcases h with h|h;omega;have:=N _ h;omega));have ae:=PDs.fr ae ao (λb hb h=>by (rcases h with h|h;omega;have:=N _ h;omega));have X4:=l8 X4 ao (λk hk=>gP hk);refine Ak (Ah (Ai (Al (C1 V7 (C1 Mv (Ak ?_))))));have e4:=MH X4 Ae Ab;exact AA (j+1,_) sB ⟨by simp only;omega,Ae,k1.eff e4,kR.eff e4,V,h4,O,U,G,X⟩ (by simp only;omega)
   . obtain rfl:j=g.procs.length:=by omega
     rw [im] at hF;have N:∀q,vj.ownBlock=some q->w.heap.size<=q/\q<w3.heap.size/\q≠b1/\q≠ai:=λq hq=>⟨hF.own.ge hq,hF.own.lt hq,λe=>k1.2.2 (e▸hq),λe=>kR.2.2 (e▸hq)⟩
     have ax:=k1.not;have ay:=kR.not;have bw:=k1.1;have bx:=kR.1;have bp:=hF.cell.lt;have b6:=X.size;obtain ⟨-,-,c3⟩:=body_iff.1 o5;have cf:=KM g.procs 2009 g.procs 0 (λi p hp=>by
      obtain ⟨c1,c2,-,c4⟩:=DN (o4 p hp);obtain ⟨-,-,c3⟩:=body_iff.1 c4;have h1:=Fu p.params [];have h2:=SS g.procs p.body p.params;unfold MC;split<;>omega)
     have c9:g.procs.length*2009<=64*2009:=jD _ o2;have ae:=G.pds;have a5:=gO (λ(w':wD) (x':Ext w3 w') (h1:g.main.sits (· < w.heap.size) w' ma) (h2:PDs (· < w.heap.size) w' g.procs pa) (h3:VDs (· < w.heap.size) w' g.vars va)=>
      Q2 w.heap.size Z Ab 109 [pt ai,pt b1] AU _ (Vl w.heap.size Z ai b1 g va vc pa pc ma mc) g Ab va vc pa pc ma mc (g.main.size+1)
       g.main g.vars (· < w.heap.size) (λ_=>False) ma mc va vc none 0 0 w' vj (Cu [] g.vars+DR g.procs 0 g.procs) Ab Ab Ab Ab h1 h2 h3 cv PathAt.nil
       (λb hb=>⟨by have:=x'.size;omega,Ab,λe=>by have:=N _ e;omega⟩) (λ_ h=>h.elim) (hF.ext x') ⟨V.ext x',h4.ext x',kR.grow x'.size,k1.grow x'.size⟩)
     rw [show Cu [] g.vars+DR g.procs 0 g.procs+g.main.flt g.procs g.vars=g.flt from rfl] at a5;have X3:=Ne w3;refine eK ?_;refine C1 (B6 rfl) (cC rfl (a5.out _ Ae Ae Ae Ae) ?_);rintro _ f1 ⟨⟨⟩,cq,cr,a6,f2⟩;have f3:=a6.size;have V:=lY V a6 (ay);have h4:=lY h4 a6 (ax);have O:=mB O a6 (λb hb h=>by (rcases h with h|h;omega;have:=N _ h;omega));have U:=lW U a6 (λb hb h=>by (rcases h with h|h;omega;have:=N _ h;omega));have G:=PDsC.fr G a6 (λb hb h=>by (rcases h with h|h;omega;have:=N _ h;omega));have X:=me X a6 (λk hk=>by (rcases hk with h|h;omega;have:=N _ h;omega));have ae:=PDs.fr ae a6 (λb hb h=>by (rcases h with h|h;omega;have:=N _ h;omega));refine cT ?_;have dp:∃a c,cq = .slice a g.flt c:=by
      obtain ⟨f4,h1,-⟩:=cr.own.ex;rw [List.length_replicate] at h1;rcases h1.row with ⟨h2,h0,-⟩|⟨q,cap,h2,-⟩
      . exact ⟨none,0,by rw [h2,h0]⟩
      . exact ⟨_,_,h2⟩
     have hc:=cr.cell;obtain ⟨ra,rc,rfl⟩:=dp;refine eK ?_;refine xR ?_;exact ⟨_,_,rfl,X⟩
def Hw {x:Nd}:∀ {l:List Nd},x∈BU l -> ∃t∈l,x∈t.walk
 | [],h=>by simp [BU] at h
 | t::r,h=>by
  simp only [BU,i6] at h;rcases h with h|h
  . exact ⟨t,AK,h⟩
  . obtain ⟨u,G,M⟩:=Hw h;exact ⟨u,by simp [G],M⟩
def Vo {n:Int} {s:lB} {l:List Nd} (h:(Nd.mk k n s l).good):∀x∈l,x.good:=by
 intro x G;rcases h with h|h|h
 . cases B3 h with
   | call _ _ _ U=>exact gQ (gQ (GK (iN.1 U x G)))
   | upd _ M N=>simp only [io,iZ,or_false] at G;rcases G with rfl|rfl<;>first|exact gQ (gQ (Be Ae))|exact gQ (gQ Ae)
   | swap M N=>simp only [io,iZ,or_false] at G;rcases G with rfl|rfl<;>exact gQ (gQ (Be Ae))
   | stack _ _ M=>simp only [io,iZ,or_false] at G;rw [G];exact gQ (gQ (Be M))
   | tape _ M=>simp only [io,iZ,or_false] at G;rw [G];exact gQ (gQ (Be M))
   | branch _ M N V X=>simp only [io,iZ,or_false] at G;rcases G with rfl|rfl|rfl|rfl<;>first|exact gQ (gQ Ae)|exact gQ (gP Ae)
   | local_ _ M N V=>simp only [io,iZ,or_false] at G;rcases G with rfl|rfl|rfl<;>first|exact gQ (gQ Ae)|exact gQ (gP Ae)
   | lstack _ M=>simp only [io,iZ,or_false] at G;rw [G];exact gQ (gP M)
 . obtain ⟨e,O⟩:=D5 h;simp only [mL] at O;exact gP (rowStmt_iff.1 O x G)
 . exact gQ (gQ ((Iv h).2.1 x G))
def Vp (N:Nat):∀t:Nd,t.size<N->t.good->t.wf -> ∀x∈t.walk,x.good/\x.wf/\x.size<=t.size:=by
 induction N with
 | zero=>intro t h;omega
 | succ N X=>
  rintro ⟨k,n,s,l⟩ Y V M x G;rw [Nd.walk,io] at G;rcases G with rfl|G
  . exact ⟨V,M,ip _⟩
  . obtain ⟨t,O,U⟩:=Hw G;have hs:=CM O;simp only [mg] at Y ⊢;obtain ⟨Z,h2,h3⟩:=X t Ab (Vo V t O) (BB (by simp only [Nd.wf] at M;exact M.2.2.2.2.2.2) t O) x U;exact ⟨Z,h2,Ab⟩
def MI {t:Nd} (h:t.isBlock=true) (G:t.wf):∀x∈t.walk,x.good/\x.wf/\x.size<=t.size:=Vp (t.size+1) t Ab (gQ (gP h)) G
def Kd {P:Program} {l:Sl} {tab:Tab} {zt:Ey} {ty:TypeId} {y:Operand} {e B c d:Nat} {a:oA} {sE:Sk} {zs:lV} {ys:List Int} (T:TabOk P tab) (Z:Ct P zt) (ht:AB tab t=some (.slice e,r)) (hE:AB tab e=some (sE,4)) (hz:CP zt e=some zs) (hzl:zs.length=4)
 (hby:Dt P e=true) (hx:ev l x=some (.slice a xs.length c)) (hy:ev l y=some (.slice N ys.length d)) (hox:OwnQ rejShape w (λ_=>False) B e (.slice a xs.length c) xs) (hoy:OwnQ rejShape w (λ_=>False) m e (.slice N ys.length d) ys) (hxn:xs=[]->a=none/\c=0) (hyn:ys=[]->N=none/\d=0) (hlen:xs.length+ys.length<=10000000000) (hB:B<=w.heap.size) :
 BE P n l (.call ⟨.builtin .append,#[x,y],#[t,t]⟩) ty w (Gd λo w'=> ∃a2 c2,o = .slice a2 (xs++ys).length c2/\OwnQ rejShape w' (λ_=>False) B e (.slice a2 (xs++ys).length c2) (xs++ys)/\Fr (λk=>(iD a xs.length c).ownBlock=some k) w w'/\(xs++ys=[]->a2=none/\c2=0)):=by
 by_cases b:ys=[]
 . obtain ⟨rfl,rfl⟩:=hyn b;subst b;rw [kH];obtain ⟨i,hi,hs⟩:=(T _ _ _ hE).info;have hun:=(T _ _ _ ht).under;have key:(Builtin.append_ #[t,t] ty #[.slice a xs.length c,.slice none 0 0]).run P w = .ok (.slice a xs.length c) w:=by
    obtain ⟨css,h1,-⟩:=hox.ex;exact run_append_owned_none (P:=P) w B t ty e i 4 hun hi _ xs.length css.flatten h1
   unfold BE;intro act dst pos after g next Q ha hn _;have e1:(execOp act.eval ⟨dst,.call ⟨.builtin .append,#[x,y],#[t,t]⟩,ty,pos,after,g⟩).run P w = .ok (.value (.slice a xs.length c)) w:=by
    simp only [iG] at hy;simp only [execOp,resolve,invoke,builtin,ij,iC,jq,ln,iR,ky,ha.ev hx,ha.ev hy,key]
   unfold jy;rw [e1];exact hn _ _ ⟨a,c,rfl,hox,lZ _ _,hxn⟩
 . obtain ⟨css,h1,h2,h3⟩:=hox.ex;obtain ⟨cys,k1,k2,k3⟩:=hoy.ex;have hpos:0<ys.length:=List.length_pos_iff.2 b;rcases k1.row with ⟨-,h0,-⟩|⟨g,cap,hv,-,-,hr⟩
   . omega
   simp only [iK] at hv;obtain ⟨rfl,-,-⟩:=hv;have hone:cys.flatten.all mq=true:=by
    rw [iN];intro u hu;obtain ⟨cs,hcs,hu⟩:=List.mem_flatten.1 hu;obtain ⟨j,hj,rfl⟩:=List.mem_iff_getElem.1 hcs;have:=rejShape.one (k3 j ys[j] cys[j] (gN Ab) (gN hj));exact iN.1 this u hu
   have hd:=D9 (P:=P) (n:=n) (l:=l) (ty:=ty) T Z ht hE hz hzl hby rfl hx hy h1 hr k1.1 hone Ab Ab hB;unfold BE at hd ⊢;intro act dst pos after gd next Q ha hn f;refine hd act dst pos after gd next Q ha (λv' w' hG=>?_) (λw' hG=>hG.elim);obtain ⟨g1,g2,g',cap',rfl,g4⟩:=hG;refine hn _ w' ⟨some ⟨g',0,none⟩,cap',by rw [iq],⟨css++cys,by rw [kB,iq];exact g1,by simp [h2,k2],λj z ds hz hd=>?_⟩,g2,λe=>by simp [b] at e⟩;by_cases hj:j<xs.length
   . rw [gW hj] at hz;rw [gW Ab] at hd;exact h3 j z ds hz hd
   . rw [ik Ab] at hz;rw [ik Ab,h2] at hd;exact k3 _ z ds hz hd
def C7 (ps:List PD):List Int:=ps.flatMap λp=>Cl p.body.walk
def PG.errs (g:PG):List Int:=if g.flt=0 then C7 g.procs++Cl g.main.walk else []
def Q9 {j:Nat} (h:j<ps.length):C7 (ps.take (j+1))=C7 (ps.take j)++Cl (ps[j]).body.walk:=by
 unfold C7;rw [gS h,jL];simp
def MJ (K:Nat):∀ps:List PD,(∀p∈ps,p.body.size<=K)->(C7 ps).length<=ps.length*K
 | [],_=>by simp [C7]
 | p::r,h=>by
  have N:=MJ K r (λq G=>h q (by simp [G]));have M:=GZ p.body.walk;rw [Ht] at M;have O:=h p AK;have e:C7 (p::r)=Cl p.body.walk++C7 r:=by simp [C7]
  rw [e,iq,gV,jQ];omega
set_option maxHeartbeats 8000000 in
def Ra (g:PG) (aa:g.wf) (ah:g.ok=true) (S:nP) (va:oA) (vc:Nat) (pa:oA) (pc:Nat) (ma:oA) (mc:Nat) (w:wD) (Y:g.sits S w va pa ma) (G:PDsC S w g.procs pa) (al:g.vars.length<=vc) :
 Calls prog 70 #[.agg (g.cells va vc pa pc ma mc).toArray] w (ChkR g.errs w):=by
 have HV:=gO (F6 aa ah);have HS:=gO (λS va vc pa pc ma mc w Y hp hv=>Kc g aa ah S va vc pa pc ma mc w Y hp hv);obtain ⟨o1,o2,-,o4,o5⟩:=DU ah;have G:=G.ltA;have Y:=Y.ltA;have X:=Ne w;by_cases hf:g.flt=0
 . have he:g.errs=C7 g.procs++Cl g.main.walk:=AH hf;rw [he];rw [hf] at HS;have N:=Y.main;obtain ⟨b1,-,b3⟩:=body_iff.1 o5;have HM:=gO (T9 (-1) g.main Ab (λx hx=>by
    obtain ⟨h1,h2,h3⟩:=MI b1 aa.main x hx;exact ⟨h1,h2,Ab⟩))
   refine Ad func70 ntmps70 rfl rfl (cS (eB [_,_,_,_,_,_] ?_));intro b1 w2 O x5 p6 z7;revert G Y X N;refine eE x5 ?_;intro G Y X N;refine kC (HV.out _ _ _ _ _ _ _ _ Ae) ?_;rintro _ w9 ⟨⟨⟩,x8⟩;revert O G Y X N;refine eE x8 ?_;intro O G Y X N;refine kQ (HS.out _ _ _ _ _ _ _ _ Ae Ae al) ?_;rintro _ bk ⟨bl,bm,⟨⟩,au⟩;revert O G X N;refine eE au ?_;intro O G X N;refine Bn rfl rfl rfl (rfl) (C1 Pz (Bn rfl rfl rfl (rfl) (C1 V5 (C1 (BR rfl rfl rfl) (cT (NH (Ao (Ai (cS (C1 Pa (cT (Aj (cS (C1 Pf (C1 (Pl O) (C1 Pz (C1 Mv (cT ?_))))))))))))))))));refine Au ?_;refine AQ (ι:=Nat×oA×Nat) (λy=>[(1,pt b1),(3,.slice y.2.1 (C7 (g.procs.take y.1)).length y.2.2),(16,.slice pa g.procs.length pc),(17,.int .i64 g.procs.length),(18,.int .i64 y.1)])
    (λy w'=>y.1<=g.procs.length/\OwnQ rejShape w' (λ_=>False) (w.heap.size+1) 140 (.slice y.2.1 (C7 (g.procs.take y.1)).length y.2.2) (C7 (g.procs.take y.1))/\(C7 (g.procs.take y.1)=[]->y.2.1=none/\y.2.2=0)/\Blk w' b1 (g.cells va vc pa pc ma mc)/\PDsC (· < w.heap.size) w' g.procs pa/\g.main.sits (· < w.heap.size) w' ma/\Ext w w')
    (λy=>g.procs.length-y.1) (0,none,0) sB ⟨ii _,mP,λ_=>⟨rfl,rfl⟩,O,G,N,X⟩ ?_
   rintro ⟨j,ra,rc⟩ w3 ⟨hj,M,ab,O,G,N,X⟩;simp only at hj M ab O G N X;have U:∀q,(iD ra (C7 (g.procs.take j)).length rc).ownBlock=some q->w.heap.size+1<=q/\q<w3.heap.size:=λq hq=>⟨M.ge hq,M.lt hq⟩
   have av:=MJ 2000 (g.procs.take j) (λp hp=>(body_iff.1 (DN (o4 p (jz hp))).2.2.2).2.2);have aw:(g.procs.take j).length*2000<=64*2000:=jD _ (by simp;omega);have bn:=O.lt;by_cases Z:j<g.procs.length
   . obtain ⟨kb,ko,rfl,kS,am⟩:=G.get (by intro e;rw [e] at Z;simp at Z);obtain ⟨qa,qc,ba,bc,r0,-,ac,-⟩:=am j g.procs[j] (gN Z);obtain ⟨d1,-,d3⟩:=body_iff.1 (DN (o4 _ (ig Z))).2.2.2;have ax:=Q9 Z;have ai:=GZ (g.procs[j]).body.walk;rw [Ht] at ai;have HC:=gO (T9 j (g.procs[j]).body Ab (λx hx=>by
      obtain ⟨h1,h2,h3⟩:=MI d1 (aa.procs _ (ig Z)).body x hx;exact ⟨h1,h2,Ab⟩))
     generalize g.procs[j]=x at *;generalize Cl x.body.walk=ys at *;generalize hE:C7 (g.procs.take j)=E at *;refine eK ?_;refine eA [_,_,_,_,_,_] ?_;intro bo bp ay az bq br;revert N X O G ac M;refine eE az ?_;intro N X O G ac M;refine C1 Pa (eS [_,_,_,_,_,_] ay ?_);intro bs a3 ad a4;revert N X O G ac;refine eF ad ?_;intro N X O G ac;have M:=mS M ad (λk hk=>⟨id,λe=>by have:=U _ e;omega⟩);refine kQ (HC.out _ _ _ _ Ae) ?_;rintro _ a5 ⟨a6,a7,⟨⟩,a8,an,a9⟩;revert N X O G M;refine eY an ?_;intro bb N X O G M;refine Ax (Kd Ac CJ rfl rfl rfl rfl AU rfl rfl Ae Ae ab Ae Ab Ab) rfl ?_ aFh;rintro _ bd ⟨aj,ak,rfl,ae,V,af⟩;have N:=lW N V (λb hb h=>by have:=U _ h;omega);have X:=me X V (λk hk=>by have:=U _ hk;omega);have O:=lY O V (λh=>by have:=U _ h;omega);have G:=PDsC.fr G V (λb hb h=>by have:=U _ h;omega);refine C1 Pa (Ak (Ah (Ai (Al (C1 V7 (C1 Mv (Ak ?_)))))));rw [<-ax] at ae af ⊢;exact AA (j+1,aj,ak) sB ⟨by simp only;omega,ae,af,O,G,N,X⟩ (by simp only;omega)
   . obtain rfl:j=g.procs.length:=by omega
     rw [im] at M ab av U;refine mK (m:=[(1,pt b1),(3,.slice ra (C7 g.procs).length rc),(16,.slice pa g.procs.length pc),(17,.int .i64 g.procs.length),(18,.int .i64 g.procs.length)]) ?_ (An rfl (B4 rfl (by simp only [im]) (An rfl (An rfl (An rfl BK)))));have ai:=GZ g.main.walk;rw [Ht] at ai;rw [im] at aw;generalize Cl g.main.walk=ys at *;generalize hE:C7 g.procs=E at *;rw [hE] at *;refine kQ (HM.out _ _ _ _ Ae) ?_;rintro _ bt ⟨bu,bv,⟨⟩,bw,a0,bx⟩;revert X M;refine eY a0 ?_;intro bz X M;refine Ax (Kd Ac CJ rfl rfl rfl rfl AU rfl rfl Ae Ae ab Ae Ab Ab) rfl ?_ aFh;rintro _ be ⟨bf,bg,rfl,ag,ao,ap⟩;have X:=me X ao (λk hk=>by have:=U _ hk;omega);refine kR ?_;exact ⟨_,_,rfl,OwnQ.below ag (λk hk=>by have:=ag.ge hk;omega),X,ap⟩
 . have he:g.errs=[]:=At hf;rw [he];refine Ad func70 ntmps70 rfl rfl (cS (eB [_,_,_,_,_,_] ?_));intro b0 b2 aq a1 _ _;revert G Y X;refine eE a1 ?_;intro G Y X;refine kC (HV.out _ _ _ _ _ _ _ _ Ae) ?_;rintro _ b4 ⟨⟨⟩,a2⟩;revert aq G Y X;refine eE a2 ?_;intro aq G Y X;refine kQ (HS.out _ _ _ _ _ _ _ _ Ae Ae al) ?_;rintro _ bh ⟨bi,bj,⟨⟩,ar⟩;have X:=X.ext ar;refine kR ?_;all_goals exact ⟨none,0,rfl,mP,X,λ_=>⟨rfl,rfl⟩⟩
def PG.acc (g:PG):Prop:=g.ok=true/\g.flt=0/\g.errs=[]
def eJ (g:PG) (N:g.wf) (S:nP) (va:oA) (vc:Nat) (V:oA) (pc:Nat) (ma:oA) (mc:Nat) (w:wD) (M:g.sits S w va V ma) (G:PDsC S w g.procs V) (Y:g.vars.length<=vc) :
 Calls prog 41 #[.agg (g.cells va vc V pc ma mc).toArray] w λe w'=> ∃q,e = .returned (.bool q)/\(q=true↔g.acc)/\Ext w w':=by
 have X:=Ne w;have M:=M.ltA;have G:=G.ltA;cases hok:g.ok
 . have Z:=gO (F6 N hok);have hn:¬g.acc:=λh=>by rw [h.1] at hok;cases hok
   refine Ad func41 ntmps41 rfl rfl (cS (eB [_,_,_,_,_,_] ?_));intro b1 w2 h4 x5 _ _;revert X M;refine eE x5 ?_;intro X M;refine kC (Z.out _ _ _ _ _ _ _ _ Ae) ?_;rintro _ w9 ⟨⟨⟩,x8⟩;have X:=X.ext x8;refine kR ?_;exact ⟨_,rfl,⟨(λh=>nomatch h),λh=>absurd h hn⟩,X⟩
 have Z:=gO (F6 N hok);have HC:=gO (λw1 h1 h2=>Kc g N hok (· < w.heap.size) va vc V pc ma mc w1 h1 h2 Y);have HE:=gO (λw1 h1 h2=>Ra g N hok (· < w.heap.size) va vc V pc ma mc w1 h1 h2 Y);by_cases h0:g.flt=0
 . rw [h0] at HC;have hq:g.acc↔g.errs.length=0:=⟨λh=>by rw [h.2.2];rfl,λh=>⟨hok,h0,jF h⟩⟩;rw [hq];generalize g.errs=xs at *;by_cases hx:xs.length=0
   . refine Ad func41 ntmps41 rfl rfl ?_;refine cS (eB [_,_,_,_,_,_] ?_);intro a8 a9 O ag _ _;revert X M G;refine eE ag ?_;intro X M G;refine kC (Z.out _ _ _ _ _ _ _ _ Ae) ?_;rintro _ ba ⟨⟨⟩,ah⟩;revert O X M G;refine eE ah ?_;intro O X M G;refine kQ (HC.out _ Ae Ae) ?_;rintro _ am ⟨an,ao,⟨⟩,aa⟩;revert O X M G;refine eE aa ?_;intro O X M G;refine kQ (HE.out _ Ae Ae) ?_;rintro _ ap ⟨aq,ar,⟨⟩,au,ab,av⟩;have X:=X.ext ab;refine kR ?_;exact ⟨_,rfl,by simp [hx],X⟩
   . refine Ad func41 ntmps41 rfl rfl ?_;refine cS (eB [_,_,_,_,_,_] ?_);intro bb bc U ai _ _;revert X M G;refine eE ai ?_;intro X M G;refine kC (Z.out _ _ _ _ _ _ _ _ Ae) ?_;rintro _ bd ⟨⟨⟩,aj⟩;revert U X M G;refine eE aj ?_;intro U X M G;refine kQ (HC.out _ Ae Ae) ?_;rintro _ aw ⟨ax,ay,⟨⟩,ac⟩;revert U X M G;refine eE ac ?_;intro U X M G;refine kQ (HE.out _ Ae Ae) ?_;rintro _ az ⟨a0,a1,⟨⟩,a2,ad,a3⟩;have X:=X.ext ad;refine kR ?_;exact ⟨_,rfl,by simp [hx],X⟩
 . have hn:¬g.acc:=λh=>h0 h.2.1
   have a4:0<g.flt:=Nat.pos_of_ne_zero h0;generalize g.flt=nf at *;refine Ad func41 ntmps41 rfl rfl (cS (eB [_,_,_,_,_,_] ?_));intro be bf ae ak _ _;revert X M G;refine eE ak ?_;intro X M G;refine kC (Z.out _ _ _ _ _ _ _ _ Ae) ?_;rintro _ bg ⟨⟨⟩,al⟩;revert ae X M G;refine eE al ?_;intro ae X M G;refine kQ (HC.out _ Ae Ae) ?_;rintro _ a5 ⟨a6,a7,⟨⟩,af⟩;have X:=X.ext af;refine kR ?_;exact ⟨_,rfl,⟨(λh=>nomatch h),λh=>absurd h hn⟩,X⟩
structure EX where
 name:lB
 points:Int
 fuel:Int
 box:BoxV
 g:PG
def EX.cells (e:EX) (va:oA) (vc:Nat) (pa:oA) (pc:Nat) (ma:oA) (mc:Nat):lV:=
 [str e.name,.int .i64 e.points,.int .i64 e.fuel,.int .i64 e.box.v,.int .i64 e.box.l,.int .i64 e.box.i,.slice va e.g.vars.length vc,.slice pa e.g.procs.length pc,.int .u8 e.g.main.kind,.int .i64 e.g.main.num,str e.g.main.name,.slice ma e.g.main.kids.length mc]
def PG.pinv (g:PG):PG:=⟨g.vars,g.procs,g.main.inv false⟩
def EX.num (e:EX):Prop:=Cv e.name=true/\(1<=e.points/\e.points<=1000)/\0<=e.fuel/\e.fuel<=1000000
instance (e:EX):Decidable e.num:=by unfold EX.num;infer_instance
instance (g:PG):Decidable g.acc:=by unfold PG.acc;infer_instance
def EX.valid (e:EX):Prop:=e.num/\e.g.acc/\e.g.pinv.acc/\(Hn e.g.vars e.box).2=0/\(Hn e.g.vars e.box).1<=65536
instance (e:EX):Decidable e.valid:=by unfold EX.valid;infer_instance
def PG.pinv_eq (g:PG):g.pinv=g.inv id false:=(PG.inv_id false g).symm
def PG.pinv_wf (h:g.wf) (G:g.ok=true):g.pinv.wf:=by
 rw [PG.pinv_eq];exact Vn false h G (λp M=>(h.procs p M).body)
def PL {P:Program} {l:Sl} {S:wD->Prop} {ty t t':TypeId} {y:Operand} {a b m:Int} (G:ev l x=some (.int .i64 a)) (M:ev l y=some (.int .i64 b)) (N:min a b=m):Br P n l S (.call ⟨.builtin .min,#[x,y],#[t,t']⟩) ty (.int .i64 m):=by
 unfold Br;intro c w O pos after g h _;have e:(if b<a then b else a)=m:=by rw [<-N];split<;>omega
 simp [execOp,resolve,invoke,builtin,Builtin.min_,Builtin.min2,h.ev G,h.ev M,e]
def Oi (x y:Int) (h:1<=x/\x<=1099511627777) (U:1<=y/\y<=1099511627777) (w:wD) :
 Calls prog 73 #[.int .i64 x,.int .i64 y] w λe w'=>e = .returned (.int .i64 (FX x y))/\Ext w w':=by
 have X:=Ne w;have V:(1099511627776:Int).tdiv y=1099511627776/y:=Int.tdiv_eq_ediv_of_nonneg Ab;have h2:0<=(1099511627776:Int)/y:=Int.ediv_nonneg Ab Ab;have h3:(1099511627776:Int)/y<=1099511627776:=Int.ediv_le_self _ Ab;have G:jo .i64 ((1099511627776:Int).tdiv y)=1099511627776/y:=by rw [V];exact gX _ Ab
 have Y:y≠0:=by omega
 by_cases M:1099511627776/y<x
 . rw [show FX x y=1099511627777 by unfold FX;rw [AH M]];generalize (1099511627776:Int)/y=q at *;refine Ad func73 ntmps73 rfl rfl (eK ?_);refine C1 (Il rfl rfl Ae G) (kR ?_);exact ⟨rfl,X⟩
 . have N:=Pm h.1 h.2 U.1;have e:FX x y=x*y:=by unfold FX;rw [At M]
   rw [e] at N ⊢;obtain ⟨m,O⟩:∃m,x*y=m:=⟨_,rfl⟩;rw [O] at N ⊢;have Z:jo .i64 (x*y)=m:=by rw [O];exact gX _ Ab
   generalize (1099511627776:Int)/y=q at *;refine Ad func73 ntmps73 rfl rfl (eK ?_);refine C1 (Il rfl rfl Ae G) (eK ?_);refine C1 (Ik rfl rfl Z) (kR ?_);exact ⟨rfl,X⟩
def Rb (p:Int×Int) (y:Int) (hp:0<=p.1/\p.1<=1000) (hq:0<=p.2/\p.2<=1000) (V:1<=y/\y<=1099511627777) (w:wD) :
 Calls prog 74 #[.agg #[.int .i64 p.1,.int .i64 p.2],.int .i64 y] w λe w'=>e = .returned (.int .i64 (Ms p y))/\Ext w w':=by
 have X:=Ne w;obtain ⟨G,ab⟩:=p;simp only at hp hq;unfold Ms;obtain ⟨N,rfl⟩:=Int.eq_ofNat_of_zero_le hq.1;rw [show ((N:Int)+1).toNat=N+1 by omega];have HS:=gO (λn=>Pp G y V.1 n);have HP:=gO (λn=>Po G y V.1 n);have HC:=gO (λx h w1=>Oi x y h V w1);have HZ:=gO (λn=>show Mr G y (n+1)=(if G<=n then min ((Mr G y n).1+(Mr G y n).2) 1099511627777 else (Mr G y n).1,FX (Mr G y n).2 y) from rfl);refine Ad func74 ntmps74 rfl rfl (cS (Du [_,_] rfl rfl rfl ?_));intro b1 w2 n3;have M:=n3.blk;dsimp only at M;have x5:=n3.ext;have X:=X.ext x5;refine C1 Pa (cN (C1 Pa (C1 Pa (cT (Aj (cS (C1 Pf (C1 (Pl M) (C1 V7 (C1 Mv (cT ?_)))))))))));refine Au ?_;refine AQ (ι:=Nat) (λj=>[(1,.int .i64 y),(2,pt b1),(5,.int .i64 (Mr G y j).1),(6,.int .i64 (Mr G y j).2),(10,.int .i64 ((N:Int)+1)),(11,.int .i64 j)])
  (λj w'=>j<=N+1/\Blk w' b1 [.int .i64 G,.int .i64 N]/\Ext w w') (λj=>N+1-j) 0 sB ⟨ii _,M,X⟩ ?_
 rintro j w1 ⟨hj,M,X⟩;by_cases ac:j<N+1
 . have hs:=HS.out j;have O:=HP.out j;have U:=HZ.out j;have Y:=gO (HC.out _ O);generalize Mr G y j=r at *;obtain ⟨r1,r2⟩:=r;simp only at hs O U Y;by_cases hl:G<=(j:Int)
   . rw [AH hl] at U;refine eK ?_;refine C1 (PL rfl rfl rfl) (kC (Y.out _) ?_);rintro _ ad ⟨⟨⟩,Z⟩;revert M X;refine eE Z ?_;intro M X;refine C1 Pa (Ak (Ah (Ai (Al (C1 V7 (C1 Mv (Ak ?_)))))));exact AA (j+1) (by rw [U];(refine An rfl ?_;refine An rfl ?_;refine An rfl ?_;refine An rfl ?_;refine An rfl ?_;refine An rfl ?_;exact BK)) ⟨Ab,Ae,X⟩ Ab
   . rw [At hl] at U;refine kC (Y.out _) ?_;rintro _ ae ⟨⟨⟩,aa⟩;revert M X;refine eE aa ?_;intro M X;refine C1 Pa (Ak (Ah (Ai (Al (C1 V7 (C1 Mv (Ak ?_)))))));exact AA (j+1) (by rw [U];(refine An rfl ?_;refine An rfl ?_;refine An rfl ?_;refine An rfl ?_;refine An rfl ?_;refine An rfl ?_;exact BK)) ⟨Ab,Ae,X⟩ Ab
 . obtain rfl:j=N+1:=by omega
   generalize (Mr G y (N+1)).1=s at *;refine kR ?_;exact ⟨rfl,X⟩
def E1:Shape (List Int) where
 sz:=1
 rep:=λw S xs cs=> ∃a c,cs=[.slice a xs.length c]/\Rows S w (AZ xs) a
 len:=λ⟨_,_,h,_⟩=>by rw [h];rfl
 one:=λ⟨_,_,h,_⟩=>by rw [h];rfl
 mono:=λ⟨a,c,h,h2⟩ hS hc=>⟨a,c,h,h2.move hS (λb o v hb h=>hc b o v hb h)⟩
 lt:=λ⟨a,c,h,h2⟩=>⟨a,c,h,h2.lt2⟩
def OwnQ.ics {R:nP} {B e:Nat} {a:oA} {len cap:Nat} {xs:List (List Int)} (h:OwnQ E1 w R B e (.slice a len cap) xs) (U:∀b,R b->S b) (V:∀b,B<=b->b<w.heap.size->S b):ICs S w xs a:=by
 by_cases M:xs=[]
 . exact gP M
 . obtain ⟨g,N,O,X,Y,G⟩:=h.rows M;simp only [iK] at O;obtain ⟨rfl,-,-⟩:=O;refine gQ ⟨g,0,rfl,V g X Y,λi x Z=>?_⟩;obtain ⟨cs,hr,a,c,rfl,h2⟩:=G i x Z;exact ⟨a,c,by simpa [E1] using hr,h2.wide U⟩
def Gh {a:oA} (h:Rows S w (AZ xs) a):IntsAt w xs a:=h.wide λ_ _=>trivial
def OwnI.rowsI {B:Nat} {a:oA} {c:Nat} (h:OwnI w B (.slice a n c) xs) (O:∀k,(iD a n c).ownBlock=some k->S k):Rows S w (AZ xs) a:=by
 rcases h.open with ⟨G,M⟩|⟨g,cap,zs,G,M,U,V,X⟩
 . subst M;exact gP rfl
 . simp only [iK] at G;obtain ⟨rfl,-,-⟩:=G;refine gQ ⟨g,0,rfl,O g rfl,λi v N=>?_⟩;exact (U.blk.row) i v (by rw [gW];exact N;exact (List.getElem?_eq_some_iff.1 N).1)
def SvR (s:SV) (w:wD):Ending->wD->Prop:=λe w'=> ∃a c ta tc oa oc,e = .returned (.agg (s.row a c ta tc oa oc).toArray)/\s.sits (λb=>w.heap.size<=b/\b<w'.heap.size) w' a ta oa/\Ext w w'
def SvR.ret {s:SV} (h:SvR s w e w'):∃v,e = .returned v:=by
 obtain ⟨_,_,_,_,_,_,h,-⟩:=h;exact ⟨_,h⟩
def CloneS (xs:List Int) (w:wD):Ending->wD->Prop:=λe w'=> ∃a c,e = .returned (.slice a xs.length c)/\Rows (λb=>w.heap.size<=b/\b<w'.heap.size) w' (AZ xs) a/\Ext w w'
def CloneS.ret (h:CloneS xs w e w'):∃v,e = .returned v:=by
 obtain ⟨_,_,h,-⟩:=h;exact ⟨_,h⟩
def Hx (xs:List Int) (G:xs.length<=1000000) (S:nP) (a:oA) (c:Nat) (w:wD) (h:Rows S w (AZ xs) a):Calls prog 88 #[.slice a xs.length c] w (CloneS xs w):=
 (FC xs G a c w (Gh h)).mono λ_ _ ⟨a,c,h1,h2,h3,h4⟩=>⟨a,c,h1,h2.rowsI h3,h4⟩
def KN (s:SV) (S:nP) (a ta oa:oA) (c tc oc:Nat) (w:wD) (hn:s.cells.length<=1000000) (hc:∀xs∈s.cells,xs.length<=1000000) (ht:s.tin.length<=1000000) (ho:s.tout.length<=1000000) (hv:s.sits S w a ta oa) :
 Calls prog 50 #[.agg (s.row a c ta tc oa oc).toArray] w (SvR s w):=by
 have X:=Ne w;have hv:=hv.ltA;obtain ⟨cells,tin,tout⟩:=s;obtain ⟨G,ae,Y⟩:=hv;simp only at G ae Y hn hc ht ho;have H1:=gO (λw1 h=>Hx tin ht (· < w.heap.size) ta tc w1 h);have H2:=gO (λw1 h=>Hx tout ho (· < w.heap.size) oa oc w1 h);have HC:=gO hc;clear hc;change Calls prog _ #[.agg #[.slice a cells.length c,.slice ta tin.length tc,.slice oa tout.length oc]] w _;refine Ad func50 ntmps50 rfl rfl ?_;refine cS (eB [_,_,_] ?_);intro b1 w2 h4 x5 p6 z7;revert X G ae Y;refine eE x5 ?_;intro X G ae Y;refine eA [_,_,_] ?_;intro b8 w9 N bh dg dh;revert h4 X G ae Y;refine eE bh ?_;intro h4 X G ae Y;refine cT ?_;refine FZ (ι:=Nat×oA×Nat×oA×Nat) (λx=>[(1,pt b1),(2,pt b8),(3,pt x.1)])
  (λx w'=>Blk w' x.1 [.slice none 0 0,.slice x.2.1 tin.length x.2.2.1,.slice x.2.2.2.1 tout.length x.2.2.2.2]/\Rows (λb=>b8<b/\b≠x.1/\b<w'.heap.size) w' (AZ tin) x.2.1/\Rows (λb=>b8<b/\b≠x.1/\b<w'.heap.size) w' (AZ tout) x.2.2.2.1/\b8<x.1/\x.1<w'.heap.size/\Blk w' b1 [.slice a cells.length c,.slice ta tin.length tc,.slice oa tout.length oc]/\Blk w' b8 [.slice none 0 0,.slice none 0 0,.slice none 0 0]/\ICs (· < w.heap.size) w' cells a/\Ext w w') ?_ ?_
 . focus
    refine Aq (λwz=>Ext w9 wz) 8 (.pure 0 (.pure 1 (.pure 3 (.pure 4 (.fork 2 (.fork 5 (.pure 6 (.fork 7 .tail .none)) (.fork 7 (.fork 5 (.pure 6 .tail) .none) .none)) (.fork 7 (.fork 2 (.fork 5 (.pure 6 .tail) .none) .none) .none)))))) mixed AU (Aa Ag) ?_;intro bi ax _;have M:(λwz=>Ext w9 wz) bi:=ax;simp only at M;have bo:=h4;revert N h4 X G ae Y;refine eY ax ?_;intro di N h4 X G ae Y;refine ⟨M,?_⟩;refine eT ?_;refine AE rfl (AN AU rfl (H1.out _ Ae) (λ_ _ h=>h.ret)) rfl ?_ aFh ?kra5;rintro _ bp ⟨dk,dl,⟨⟩,ad,bj⟩;revert M N h4 X G Y;refine eY bj ?_;intro br M N h4 X G Y;refine ⟨M,?_⟩;refine AE rfl (AN AU rfl (H2.out _ Ae) (λ_ _ h=>h.ret)) rfl ?_ aFh ?kra12;rintro _ bs ⟨bt,bu,⟨⟩,ah,ay⟩;revert ad M N h4 X G;refine eY ay ?_;intro bv ad M N h4 X G;refine ⟨M,?_⟩;refine Tq rfl (xB [_,_,_]) ?_;refine AE rfl (Bb CJ rfl) rfl ?_ aFh AC;rintro _ bw ⟨bx,rfl,ai⟩;have aq:=ai.blk;dsimp only at aq;have az:=ai.ext;have bz:=ai.pos;have b0:=ai.size;revert ah ad M N h4 X G;refine eE az ?_;intro ah ad M N h4 X G;refine ⟨M,?_⟩;refine Ar rfl (eS [_,_,_] aq ?_);intro b2 b3 a0 b4;revert ah ad N h4 X G;refine eF a0 ?_;intro ah ad N h4 X G;refine Ak ?_;rotate_left;refine AE rfl (Bb CJ rfl) rfl ?_ aFh AC;rintro _ b5 ⟨b6,rfl,aj⟩;have ak:=aj.blk;dsimp only at ak;have a3:=aj.ext;have b7:=aj.pos;have b9:=aj.size;revert ad M N h4 X G Y;refine eE a3 ?_;intro ad M N h4 X G Y;refine ⟨M,?_⟩;refine tC rfl rfl (H2.out _ Ae) ?_;rintro _ ca ⟨cb,cc,⟨⟩,ar,a4⟩;revert ak ad M N h4 X G;refine eY a4 ?_;intro cd ak ad M N h4 X G;refine ⟨M,?_⟩;refine Tq rfl (xB [_,_,_]) ?_;refine Ar rfl (eS [_,_,_] ak ?_);intro ce cf a5 cg;revert ar ad N h4 X G;refine eF a5 ?_;intro ar ad N h4 X G;refine Ak ?_;rotate_left;refine AE rfl (Bb CJ rfl) rfl ?_ aFh AC;rintro _ ch ⟨ci,rfl,al⟩;have af:=al.blk;dsimp only at af;have a6:=al.ext;have cj:=al.pos;have ck:=al.size;revert M N h4 X G ae Y
    refine eE a6 ?_;intro M N h4 X G ae Y;refine ⟨M,?_⟩;refine tC rfl rfl (H1.out _ Ae) ?_;rintro _ cl ⟨cm,cn,⟨⟩,am,a7⟩;revert af M N h4 X G Y;refine eY a7 ?_;intro co af M N h4 X G Y;refine ⟨M,?_⟩;refine tC rfl rfl (H2.out _ Ae) ?_;rintro _ cp ⟨cq,cr,⟨⟩,au,a8⟩;revert am af M N h4 X G;refine eY a8 ?_;intro ct am af M N h4 X G;refine ⟨M,?_⟩;refine Tq rfl (xB [_,_,_]) ?_;refine Ar rfl (eS [_,_,_] af ?_);intro cu cv a9 cw;revert au am N h4 X G;refine eF a9 ?_;intro au am N h4 X G;refine Ak ?_;rotate_left
   all_goals exact BY (_,_,_,_,_) sC ⟨Ae,Rows.wide Ae (λb h=>⟨Ab,by simp only;omega,Ab⟩),Rows.wide Ae (λb h=>⟨Ab,by simp only;omega,Ab⟩),by simp only;omega,by simp only;omega,Ae,Ae,Ae,X⟩
 . clear h4 N G ae Y X H1 H2;rintro ⟨bq,a1,c1,a2,c2⟩ w1 ⟨Z,U,V,o1,o2,ba,aa,G,X⟩;simp only at Z U V o1 o2;refine Aj (cS (C1 Pg (C1 (Pl ba) (C1 Pz (C1 Mv (cT ?_))))));refine Au ?_;refine AQ (ι:=Nat) (λj=>[(1,pt b1),(2,pt b8),(3,pt bq),(14,.slice a cells.length c),(15,.int .i64 cells.length),(16,.int .i64 j)])
    (λj w'=> ∃ra rc,j<=cells.length/\OwnQ E1 w' (λb=>w1.heap.size<=b) w1.heap.size 43 (.slice ra (cells.take j).length rc) (cells.take j)/\Blk w' bq [.slice ra (cells.take j).length rc,.slice a1 tin.length c1,.slice a2 tout.length c2]/\Rows (λb=>b8<b/\b≠bq/\b<w1.heap.size) w' (AZ tin) a1/\Rows (λb=>b8<b/\b≠bq/\b<w1.heap.size) w' (AZ tout) a2/\Blk w' b8 [.slice none 0 0,.slice none 0 0,.slice none 0 0]/\ICs (· < w.heap.size) w' cells a/\Ext w w'/\w1.heap.size<=w'.heap.size)
    (λj=>cells.length-j) 0 sB ⟨none,0,ii _,mP,Z,U,V,aa,G,X,ip _⟩ ?_
   clear Z U V aa G X ba;rintro j w3 ⟨ra,rc,hj,O,Z,U,V,aa,G,X,hz⟩;have ag:∀g',(iD ra (cells.take j).length rc).ownBlock=some g'->w1.heap.size<=g'/\g'<w3.heap.size:=λg' h=>⟨O.ge h,O.lt h⟩
   have dm:(cells.take j).length<=1000000:=by rw [iO];omega
   by_cases ap:j<cells.length
   . have O:=O.ltR;obtain ⟨db,dn,rfl,dS,hd⟩:=G.get (by intro e;subst e;simp at ap);obtain ⟨xa,xc,ry,bb⟩:=hd j _ (gN ap);have HX:=gO (λw1 (h:Rows (· < w.heap.size) w1 (AZ cells[j]) xa)=>Hx cells[j] (HC.out _ (ig ap)) (· < w.heap.size) xa xc w1 h);have ao:cells.take j++[cells[j]]=cells.take (j+1):=(gS ap).symm;clear hd HC;generalize cells[j]=x at *;generalize cells.take j=ys at *;refine eK ?_;refine Aq (λwz=>Ext w3 wz) 5 (.pure 0 (.pure 1 (.pure 2 (.fork 3 (.fork 4 .tail .none) .none)))) mixed AU (Af (Aa (Aa (Af (Aa Ag))))) ?_;intro bk bc _;have ab:(λwz=>Ext w3 wz) bk:=bc;simp only at ab;have bl:=Z;revert U V aa X G bb Z O;refine eY bc ?_;intro dp U V aa X G bb Z O;refine ⟨ab,?_⟩;refine eT ?_;refine tC rfl rfl (HX.out _ Ae) ?_;rintro _ cx ⟨dq,dr,⟨⟩,bd,bm⟩;revert ab U V aa X G Z O;refine eY bm ?_;intro cy ab U V aa X G Z O;refine ⟨ab,?_⟩;refine AE rfl (xS [_]) rfl ?_ aFh AC;rintro _ cz ⟨c0,rfl,an,c3⟩;have c4:=an.blk;have be:=an.ext;have c5:=an.pos;have c6:=an.size;revert bd ab U V aa X G Z O;refine eE be ?_;intro bd ab U V aa X G Z O;refine ⟨ab,?_⟩;refine Ar rfl (Di (R:=λb=>w1.heap.size<=b) (sh:=E1) (z:=x) Ac CJ rfl rfl rfl rfl AU rfl rfl rfl Ae (λ_ h=>by exact h.1) (mi Ae) ⟨_,_,rfl,Rows.wide Ae (λb h=>by (try dsimp only at h);exact ⟨Ab,λe=>by have:=ag _ e;omega⟩)⟩ Ab Ab rfl ?_)
     rintro c7 bf c8 av c9 da ac;have dc:=ac.size;have U:=Rows.fr U ac (λb hb hT=>by have:=ag _ hT;(try dsimp only at hb);omega);have V:=Rows.fr V ac (λb hb hT=>by have:=ag _ hT;(try dsimp only at hb);omega);have aa:=lY aa ac (λe=>by have:=ag _ e;omega);have X:=me X ac (λk hk=>by have:=ag _ hk;omega);have G:=ICs.fr G ac (λb hb hT=>by have:=ag _ hT;(try dsimp only at hb);omega);clear ry;have Z:=lY Z ac (λe=>by have:=ag _ e;omega);clear O ac;refine C1 Pg (eV [_] [_,_,_] Z ?_);intro dd de aw df;clear Z;have av:=mS av aw (λk hk=>⟨λh=>by (try dsimp only at hk h);omega,λe=>by have:=OwnQ.ge Ae e;(try dsimp only at hk);omega⟩);revert U V aa X G;refine eF aw ?_;intro U V aa X G;refine Ak (Ah (Ai (Al (C1 V7 (C1 Mv (Ak ?_))))));exact AA (j+1) sB ⟨some ⟨_,0,none⟩,_,Ab,by rw [<-ao];assumption,by rw [<-ao];assumption,U,V,aa,G,X,Ab⟩ Ab
   . obtain rfl:j=cells.length:=by omega
     rw [im] at *;refine eK ?_;refine eS [_,_,_] aa ?_;intro ds bn bg dt;revert U V X;refine eF bg ?_;intro U V X;have O:=mS O bg (λk hk=>⟨λh=>by (try dsimp only at hk h);omega,λe=>by have:=OwnQ.ge Ae e;(try dsimp only at hk);omega⟩);refine kX bn ?_;exact ⟨_,_,_,_,_,_,rfl,⟨O.ltR.ics (λb h=>⟨Ab,Ab⟩) (λb h1 h2=>⟨Ab,h2⟩),U.wide (λb h=>⟨Ab,Ab⟩),V.wide (λb h=>⟨Ab,Ab⟩)⟩,X⟩
section
variable {α:Type} {c:α->Value} {S' T:nP} {l:List α} {a:oA}
end
def Uc {α:Type} (c:α->Value) (h1:∀x,mq (c x)=true):Shape α where
 sz:=1
 rep:=λ_ _ v cs=>cs=[c v]
 len:=λh=>by rw [h];rfl
 one:=λh=>by rw [h];simp [h1]
 mono:=λh _ _=>h
 lt:=λh=>h
abbrev fY (i:Int):Value:=.int .i64 i
abbrev C8:Shape Int:=Uc fY (λ_=>rfl)
abbrev strShape:Shape lB:=Uc str (λ_=>rfl)
def C9 (vs:List VD):List (List Int):=vs.map λv=>iL (CT v).toNat 0
def ArrS.blkJ {C D g:Nat} (h:ArrS C8 C D w g xs):Blk w g (AZ xs):=by
 obtain ⟨G,N,V,O⟩:=h.ex;have e:G.flatten=AZ xs:=by
  have:G=xs.map λx=>[iW .i64 x]:=by
   apply jG ;intro i;rw [iJ];rcases it i xs.length with M|M
   . have U:G[i]? = some G[i]:=gN Ab;have:=O i xs[i] G[i] (gN M) U;rw [U,gN M];exact congrArg some this
   . rw [ic M,ic Ab];rfl
  rw [this];unfold AZ;clear this N V O h
  induction xs with
  | nil=>rfl
  | cons x xs X=>simp [X]
 rwa [e] at N
def ArrS.rowsJ {C D g:Nat} (h:ArrS C8 C D w g xs) (G:S g):Rows S w (AZ xs) (some ⟨g,0,none⟩):=gQ ⟨g,0,rfl,G,h.blkJ.row⟩
def NewSR (vs:List VD) (w:wD):Ending->wD->Prop:=λe w'=> ∃a c ta tc,e = .returned (.tuple #[.agg #[.slice a vs.length c,.slice ta 0 tc,.slice none 0 0],.int .i64 0])/\ICs (λb=>w.heap.size<=b/\b<w'.heap.size) w' (C9 vs) a/\Ext w w'
def NewSR.ret {vs:List VD} (h:NewSR vs w e w'):∃v,e = .returned v:=by
 obtain ⟨_,_,_,_,h,-⟩:=h;exact ⟨_,h⟩
def Zf (l:List VD) (O:l.length<=1000000) (U:¬C3 l) (S:nP) (a:oA) (c:Nat) (w:wD) (N:VDs S w l a) :
 Calls prog 112 #[.slice a l.length c,.slice none 0 0] w λe w'=>e = .returned (.tuple #[.agg #[.slice none 0 0,.slice none 0 0,.slice none 0 0],.int .i64 3])/\Ext w w':=by
 have X:=Ne w;have V:Hid (∀w1,VDs S w1 l a->Calls prog 152 #[.slice a l.length c] w1 λe w'=>e = .returned (.bool false)/\Ext w1 w'):=gO λw1 h=>(Pk l O S a c w1 h).mono λe w' ⟨q,h1,h2,h3⟩=>⟨by rw [h1,show q=false by cases q with|false=>rfl|true=>exact absurd (h2.1 rfl) U],h3⟩
 refine Ad func112 ntmps112 rfl rfl (cS (eA [_,_,_] ?_));intro b1 w2 G Y p7 z8;revert N X;refine eE Y ?_;intro N X;refine kC (V.out _ Ae) ?_;rintro _ Z ⟨⟨⟩,x9⟩;revert G X;refine eE x9 ?_;intro G X;refine eK ?_;refine C1 (xB [_,_,_]) (eS [_,_,_] G ?_);intro aa ab M _;have X:=X.fr M Ab;refine eK ?_;refine C4 rfl Ac rfl rfl rfl Ae rfl rfl ?_;exact ⟨rfl,X⟩
def Zg (l:List VD) (hv:C3 l) (S:nP) (a:oA) (c:Nat) (w:wD) (U:VDs S w l a) :
 Calls prog 112 #[.slice a l.length c,.slice none 0 0] w (NewSR l w):=by
 have X:=Ne w;replace U:VDs (· < w.heap.size) w l a:=U.lt2.wide λ_ h=>h.2
 have hl:l.length<=1000000:=by have:=hv.1;omega
 have HV:Hid (∀w1,VDs (· < w.heap.size) w1 l a->Calls prog 152 #[.slice a l.length c] w1 λe w'=>e = .returned (.bool true)/\Ext w1 w'):=gO λw1 h=>(Pk l hl (· < w.heap.size) a c w1 h).mono λe w' ⟨q,h1,h2,h3⟩=>⟨by rw [h1,h2.2 hv],h3⟩
 have HN:Hid (∀w1,Calls prog 88 #[.slice none 0 0] w1 (CloneS [] w1)):=gO λw1=>Hx [] AK (λ_=>True) none 0 w1 (gP rfl)
 have hz:(C9 l).length=l.length:=by simp [C9]
 refine Ad func112 ntmps112 rfl rfl (cS (eA [_,_,_] ?_));intro b1 w2 V x6 p7 z8;revert X U;refine eE x6 ?_;intro X U;refine kC (HV.out _ Ae) ?_;rintro _ bq ⟨⟨⟩,x9⟩;revert V X U;refine eY x9 ?_;intro br V X U;refine kQ (HN.out _) ?_;rintro _ bs ⟨aj,ak,⟨⟩,bt,av⟩;revert V X U;refine eY av ?_;intro bu V X U;refine C1 (xB [_,_,_]) (xA [_,_,_] ?_);intro al bv aw;refine eI [_,_,_] aw ?_;intro aa O ax bw bx;revert V X U;refine eE ax ?_;intro V X U;refine cT (Aj (cS (C1 Mv (C1 Pz (C1 Mv (cT ?_))))));refine Au ?_;refine AQ (ι:=Nat) (λj=>[(4,pt b1),(6,pt al),(20,.slice a l.length c),(21,.int .i64 l.length),(22,.int .i64 j)])
  (λj w'=> ∃ra rc,j<=l.length/\OwnQ E1 w' (λb=>aa.heap.size<=b) aa.heap.size 43 (.slice ra ((C9 l).take j).length rc) ((C9 l).take j)/\Blk w' al [.slice ra ((C9 l).take j).length rc,.slice aj 0 ak,.slice none 0 0]/\Blk w' b1 [.slice none 0 0,.slice none 0 0,.slice none 0 0]/\VDs (· < w.heap.size) w' l a/\Ext w w'/\aa.heap.size<=w'.heap.size)
  (λj=>l.length-j) 0 sB ⟨none,0,ii _,mP,O,V,U,X,ip _⟩ ?_
 rintro j w3 ⟨ra,rc,hj,G,O,V,U,X,bz⟩;have ab:∀g',(iD ra ((C9 l).take j).length rc).ownBlock=some g'->aa.heap.size<=g'/\g'<w3.heap.size:=λg' h=>⟨G.ge h,G.lt h⟩
 have b0:((C9 l).take j).length<=1000000:=by rw [iO];omega
 by_cases am:j<l.length
 . have G:=G.ltR;obtain ⟨kb,ko,rfl,kS,hk⟩:=mw U Ab;have rx:=hk j _ (gN am);have ay:=hv.2 _ (ig am);have az:0<=CT l[j]/\CT l[j]<=16:=by unfold CT;unfold IG at ay;split<;>omega
   obtain ⟨N,hN⟩:=Int.eq_ofNat_of_zero_le az.1;have HX:Hid (∀w1,Calls prog 153 #[l[j].val] w1 λe w'=>e = .returned (.int .i64 (N:Int))/\Ext w1 w'):=gO λw1=>by rw [<-hN];exact TU l[j] w1
   have ac:(C9 l).take j++[iL N 0]=(C9 l).take (j+1):=by
    rw [gS Ab];congr 2;simp only [C9,kz,hN,Int.toNat_natCast]
   have a4:N<=16:=by omega
   generalize l[j]=x at *;obtain ⟨xn,xk,xl⟩:=x;replace rx:Row w3 ⟨kb,ko+j*3,none⟩ [str xn,.int .u8 xk,.int .i64 xl]:=rx;unfold VD.val at HX;dsimp only at HX;generalize (C9 l).take j=ys at *;refine eK ?_;refine xA [_,_,_] ?_;intro b2 b3 a0;refine eI [_,_,_] a0 ?_;intro an a1 a2 b4 b5;revert V X U O G;refine eE a2 ?_;intro V X U O G;refine cT (Aq (λwz=>Ext an wz) 6 (.pure 0 (.pure 1 (.pure 2 (.fork 3 (.fork 4 (.fork 5 .tail .none) .none) .none)))) mixed AU (Af (Aa (Aa (Af (Aa Ag))))) ?_);intro a3 ad _;have M:(λwz=>Ext an wz) a3:=ad;simp only at M;have ah:=a1;have ai:=O;revert V X U O G;refine eY ad ?_;intro a5 V X U O G;refine ⟨M,(Tq rfl Pg (Tq rfl (Db ai) (Tq rfl (xL [_,_,_] (λwz hz=>(l9 ah hz))) (tC rfl rfl (HX.out _) ?_))))⟩;rintro _ a6 ⟨⟨⟩,ao⟩;revert M V X U O G;refine eY ao ?_;intro a7 M V X U O G;refine ⟨M,(AE rfl (Dq (sh:=C8) (C:=0) (D:=0) (N:=N) (z:=0) Ac CJ rfl rfl rfl rfl AU rfl rfl Ab (λ_ _=>rfl)) rfl ?_ aFh AC)⟩;rintro _ a8 ⟨a9,rfl,ae,ba,bb,ap⟩;revert M V X U O G;refine eE ap ?_;intro M V X U O G;refine ⟨M,(AE rfl (xS [_]) rfl ?_ aFh AC)⟩;rintro _ bc ⟨bd,rfl,Z,be⟩;have bf:=Z.blk;have aq:=Z.ext;have bg:=Z.pos;have bh:=Z.size;revert ae M V X U O G;refine eE aq ?_;intro ae M V X U O G;refine ⟨M,(Ar rfl (Di (R:=λb=>aa.heap.size<=b) (sh:=E1) (z:=iL N 0) Ac CJ rfl rfl rfl rfl AU rfl rfl rfl Ae (λ_ h=>by exact h.1) (mi Ae) ⟨_,_,by rw [List.length_replicate],ArrS.rowsJ Ae ⟨Ab,λe=>by have:=ab _ e;omega⟩⟩ Ab Ab rfl ?_))⟩;rintro bi ar bj af bk bl Y;have bm:=Y.size;have V:=lY V Y (λe=>by have:=ab _ e;omega);have X:=me X Y (λk hk=>by have:=ab _ hk;omega);have U:=mB U Y (λb hb hT=>by have:=ab _ hT;(try dsimp only at hb);omega);have O:=lY O Y (λe=>by have:=ab _ e;omega);refine C1 Pg (eV [_] [_,_,_] O ?_);intro bn bo ag bp;have af:=mS af ag (λk hk=>⟨λh=>by (try dsimp only at hk h);omega,λe=>by have:=OwnQ.ge Ae e;(try dsimp only at hk);omega⟩);revert V X U;refine eF ag ?_;intro V X U;refine Ak (Ah (Ai (Al (C1 V7 (C1 Mv (Ak ?_))))))
   exact AA (j+1) sB ⟨some ⟨_,0,none⟩,_,Ab,by rw [<-ac];assumption,by rw [<-ac];assumption,V,U,X,Ab⟩ Ab
 . obtain rfl:j=l.length:=by omega
   have et:(C9 l).take l.length=C9 l:=by rw [<-hz,im]
   rw [et] at G O;refine eK ?_;refine eS [_,_,_] V ?_;intro b6 b7 au _;have X:=X.fr au Ab;have G:=mS G au (λk hk=>⟨λh=>by (try dsimp only at hk h);omega,λe=>by have:=OwnQ.ge Ae e;(try dsimp only at hk);omega⟩);refine C1 Pa (cT (AR (C4 rfl Ac rfl rfl rfl Ae rfl rfl ?_)));refine ⟨ra,rc,aj,ak,by rw [hz],?_,X⟩;exact G.ltR.ics (λb h=>⟨Ab,Ab⟩) (λb h1 h2=>⟨Ab,h2⟩)
section
variable {P:Program} {l:Sl} {S:wD->Prop} {tab:Tab} {zt:Ey} {ty e sz:Nat} {sE:Sk}
def MK {y z:Operand} {a b c z0 N:Value} (T:TabOk P tab) (Z:Ct P zt) (O:AB tab t=some (.array 3 e,sz)) (U:AB tab e=some (sE,1)) (V:CP zt t=some [z0,v,N])
 (X:ev l x=some a) (Y:ev l y=some b) (hw:ev l z=some c) (ca:a.cells = #[a]) (cb:b.cells = #[b]) (cc:c.cells = #[c]):Br P n l S (.build t #[(0,x),(1,y),(2,z)]) ty (.agg #[a,b,c]):=by
 unfold Br;intro s w aa pos after g h _;have hu:P.underlying t=some (.array 3 e):=(T _ _ _ O).under;obtain ⟨i0,v0,k1,k2,k3⟩:=E5 Z V;obtain ⟨ie,j1,j2⟩:=(T _ _ _ U).info;have G:v0.cells = #[z0,v,N]:=k3;have hb:P.built t [(0,a),(1,b),(2,c)]=some #[a,b,c]:=by
  unfold Program.built;simp only [k1,hu,k2,j1];simp [Instr.fill,j2,ca,cb,cc,G]
 have:=run_build w t #[(0,a),(1,b),(2,c)] _ hb;simp only [execOp,ij];rw [show (#[(0,x),(1,y),(2,z)]:Array (Nat×Operand)).map (λp=>match p with|(i,x)=>(i,s.eval x)) = #[(0,a),(1,b),(2,c)] by simp [h.ev X,h.ev Y,h.ev hw],this];rfl
def ML {k:IntKind} {i:Int} {y:Operand} {vs:lV} (T:TabOk P tab) (M:AB tab t=some (.array m e,sz)) (h:AB tab e=some (sE,1)) (N:sE.agg=false) (O:ev l x=some (.agg vs.toArray)) (U:ev l y=some (.int k i)) (V:0<=i) (X:i<m) (Y:vs[i.toNat]? = some v) :
 Br P n l S (.index t x y) ty v:=by
 unfold Br;intro s w Z pos after g G _;have hu:P.underlying t=some (.array m e):=(T _ _ _ M).under;have e1:(Instr.index t (.agg vs.toArray) (.int k i)).run P w = .ok v w:=by
  simp only [Instr.index,asIntOf,ij,iC,gY,AD hu];simp only [V,X,and_self,if_true,ij,Ca (T _ _ _ h),gY,part,CB (T _ _ _ h),N];simp [Y]
 simp [execOp,G.ev O,G.ev U,e1]
end
def CX:Shape (Int×Int) where
 sz:=2
 rep:=λ_ _ p cs=>cs=[.int .i64 p.1,.int .i64 p.2]
 len:=λh=>by rw [h];rfl
 one:=λh=>by rw [h];rfl
 mono:=λh _ _=>h
 lt:=λh=>h
def LK (w:wD) (b o:Nat) (p:Int×Int):Prop:=Row w ⟨b,o,none⟩ [.int .i64 p.1,.int .i64 p.2]
def Bds (w:wD) (l:List (Int×Int)) (a:oA):Prop:=Arr (λ_=>True) 2 LK w l a
def Bds.ext {a:oA} (h:Bds w l a) (x:Ext w w'):Bds w' l a:=h.mono aFh (λ_ _ _ _ _ h=>l5 h x)
instance {a:oA}:LfE w w' (Bds w l a) (Bds w' l a):=⟨λx h=>Bk.Bds.ext h x⟩
def OwnQ.bds {R:nP} {B e:Nat} {a:oA} {len cap:Nat} {xs:List (Int×Int)} (h:OwnQ CX w R B e (.slice a len cap) xs):Bds w xs a:=by
 by_cases M:xs=[]
 . exact gP M
 . obtain ⟨g,N,O,X,Y,G⟩:=h.rows M;simp only [iK] at O;obtain ⟨rfl,-,-⟩:=O;refine gQ ⟨g,0,rfl,trivial,λi x U=>?_⟩;obtain ⟨cs,V,rfl⟩:=G i x U;simpa [CX,LK] using V
def OwnQ.bdsN {R:nP} {B e C:Nat} {a:oA} {len cap:Nat} {xs:List (Int×Int)} (h:OwnQ CX w R B e (.slice a len cap) xs) (X:C<=B):Arr (λb=>C<=b/\b<w.heap.size) 2 LK w xs a:=by
 rcases h.bds with O|⟨g,o,rfl,-,U⟩
 . exact gP O
 . by_cases G:xs=[]
   . exact gP G
   . obtain ⟨g',M,N,Y,V,-⟩:=h.rows G;simp only [iK,gU,jW] at N;obtain ⟨⟨rfl,-⟩,-⟩:=N;exact gQ ⟨g,o,rfl,⟨Ab,V⟩,U⟩
def BdN (lo hi:Nat) (w:wD) (l:List (Int×Int)) (a:oA):Prop:=Arr (λb=>lo<=b/\b<hi) 2 LK w l a
def BdN.ext {a:oA} (h:BdN r m w l a) (x:Ext w w'):BdN r m w' l a:=Arr.mono h aFh (λ_ _ _ _ _ h=>l5 h x)
instance {a:oA}:LfE w w' (BdN r m w l a) (BdN r m w' l a):=⟨λx h=>Bk.BdN.ext h x⟩
def BdN.fr {T:nP} {a:oA} (h:BdN r m w l a) (x:Fr T w w') (N:∀b,r<=b/\b<m -> ¬T b):BdN r m w' l a:=Arr.mono h aFh (λb _ _ _ O h=>mo h x (N b O))
instance {T:nP} {a:oA}:LfF T w w' (BdN r m w l a) (∀b,r<=b/\b<m -> ¬T b) (BdN r m w' l a):=⟨λx s h=>Bk.BdN.fr h x s⟩
def eL (l:List (Int×Int)) (w:wD):Ending->wD->Prop:=λe w'=> ∃a c,e = .returned (.tuple #[.slice a l.length c,.bool true])/\BdN w.heap.size w'.heap.size w' l a/\Ext w w'
def LensR (l:List (Int×Int)) (w:wD):Ending->wD->Prop:=λe w'=> ∃a c,e = .returned (.tuple #[.slice a l.length c,.bool true])/\Bds w' l a/\Ext w w'
def LensR.ret (h:LensR l w e w'):∃v,e = .returned v:=by
 obtain ⟨_,_,h,-⟩:=h;exact ⟨_,h⟩
def Oj (vs:List VD) (hl:vs.length<=1000000) (b:BoxV) (hv:¬(b.ok/\C3 vs)) (S:nP) (a:oA) (c:Nat) (w:wD) (U:VDs S w vs a) :
 Calls prog 72 #[.slice a vs.length c,.agg #[.int .i64 b.v,.int .i64 b.l,.int .i64 b.i]] w λe w'=>e = .returned (.tuple #[.slice none 0 0,.bool false])/\Ext w w':=by
 have X:=Ne w;obtain ⟨G,M,N⟩:=b;simp only [BoxV.ok] at hv;have HN:Hid (C3 vs \/ ∀w1,VDs S w1 vs a->Calls prog 112 #[.slice a vs.length c,.slice none 0 0] w1 λe w'=>e = .returned (.tuple #[.agg #[.slice none 0 0,.slice none 0 0,.slice none 0 0],.int .i64 3])/\Ext w1 w'):=
  gO (by by_cases h:C3 vs;exact gP h;exact gQ λw1 V=>Zf vs hl h S a c w1 V)
 have O:(0<=G/\G<=1000)->(0<=M/\M<=1000)->(0<=N/\N<=1000) -> ¬C3 vs:=λV h2 h3 h=>hv ⟨⟨V,h2,h3⟩,h⟩
 refine Ad func72 ntmps72 rfl rfl (cS (Du [_,_,_] rfl rfl rfl ?_));intro b1 w2 n3;have Y:=n3.blk;dsimp only at Y;have x5:=n3.ext;revert U X;refine eE x5 ?_;intro U X;refine eK ?_;refine C1 (MK Ac CJ rfl rfl rfl rfl rfl rfl rfl rfl rfl) (C1 Mv (cT ?_));refine Au ?_;refine AQ (ι:=Nat) (λj=>[(0,.slice a vs.length c),(3,pt b1),(4,.slice none 0 0),(5,.bool false),(19,.agg #[.int .i64 G,.int .i64 M,.int .i64 N]),(20,.int .i64 j)])
  (λj w'=>j<=3/\(0<j->0<=G/\G<=1000)/\(1<j->0<=M/\M<=1000)/\(2<j->0<=N/\N<=1000)/\Blk w' b1 [.int .i64 G,.int .i64 M,.int .i64 N]/\VDs S w' vs a/\Ext w w') (λj=>3-j) 0 sB ⟨Ab,Ab,Ab,Ab,Y,U,X⟩ ?_
 rintro j w1 ⟨hj,o1,o2,o3,Y,U,X⟩;by_cases ae:j<3
 . obtain ⟨x,hx,q1,q2,q3⟩:∃x,[iW .i64 G,.int .i64 M,.int .i64 N][((j:Int)).toNat]? = some (.int .i64 x)/\(j=0->x=G)/\(j=1->x=M)/\(j=2->x=N):=by
    rw [Int.toNat_natCast];rcases (show j=0\/j=1\/j=2 by omega) with rfl|rfl|rfl
    . exact ⟨G,rfl,λ_=>rfl,λh=>by omega,λh=>by omega⟩
    . exact ⟨M,rfl,λh=>by omega,λ_=>rfl,λh=>by omega⟩
    . exact ⟨N,rfl,λh=>by omega,λh=>by omega,λ_=>rfl⟩
   focus
    refine eK ?_;refine C1 (ML (vs:=[.int .i64 G,.int .i64 M,.int .i64 N]) Ac rfl rfl rfl rfl rfl Ab Ab hx) (eK ?_);refine B0 rfl rfl rfl (λZ=>?_) (λZ=>?_);refine kT ?_;rotate_left;refine eK ?_;refine Ay rfl (λaa=>?_) (λaa=>?_);refine kT ?_;rotate_left;refine eK ?_;rotate_left
   . exact ⟨rfl,X⟩
   . exact ⟨rfl,X⟩
   . exact AA (j+1) sB ⟨Ab,λ_=>by omega,λ_=>by omega,λ_=>by omega,Ae,Ae,X⟩ Ab
 . obtain rfl:j=3:=by omega
   refine kC ((HN.out.resolve_left (O Ab Ab Ab)) _ Ae) ?_;rintro _ af ⟨⟨⟩,ab⟩;have X:=X.ext ab;refine eK ?_;refine xA [_,_,_] ?_;intro ag ah ac;refine eI [_,_,_] ac ?_;intro ai _ ad _ _;have X:=X.ext ad;refine kT ?_;exact ⟨rfl,X⟩
def MM (vs:List VD) (b:BoxV) (hb:b.ok) (hv:C3 vs) (S:nP) (a:oA) (c:Nat) (w:wD) (M:VDs S w vs a) :
 Calls prog 72 #[.slice a vs.length c,.agg #[.int .i64 b.v,.int .i64 b.l,.int .i64 b.i]] w (eL (CV vs b) w):=by
 have X:=Ne w;replace M:VDs (· < w.heap.size) w vs a:=M.lt2.wide λ_ h=>h.2
 have hl:vs.length<=1000000:=by have:=hv.1;omega
 have HN:=gO (λw1 (h:VDs (· < w.heap.size) w1 vs a)=>Zg vs hv (· < w.heap.size) a c w1 h);have HL:Hid (∀j (hj:j<vs.length),((CT vs[j]).toNat:Int)=CT vs[j]/\JT b vs[j]=if vs[j].kind=3 then (0,b.l) else (CT vs[j],CT vs[j])):=gO λj hj=>⟨by
  have au:=hv.2 _ (ig hj);unfold IG at au;unfold CT;split<;>omega,rfl⟩
 have hz:(C9 vs).length=vs.length:=by simp [C9]
 unfold CV;have af:∀j (hj:j<vs.length),(vs.map (JT b)).take j++[JT b vs[j]]=(vs.map (JT b)).take (j+1):=λj hj=>by
  rw [gS (by simpa using hj),kz]
 have av:(vs.map (JT b)).length=vs.length:=by simp
 obtain ⟨⟨o1,o2⟩,⟨o3,o4⟩,o5,o6⟩:=hb;obtain ⟨bv,bl,bi⟩:=b;simp only at o1 o2 o3 o4 o5 o6 HL;generalize bn:vs.map (JT ⟨bv,bl,bi⟩)=ms at *;refine Ad func72 ntmps72 rfl rfl (cS (Du [_,_,_] rfl rfl rfl ?_));intro b1 w2 n3;have U:=n3.blk;dsimp only at U;have x5:=n3.ext;have p6:=n3.pos;have z7:=n3.size;revert X M;refine eE x5 ?_;intro X M;refine eK ?_;refine C1 (MK Ac CJ rfl rfl rfl rfl rfl rfl rfl rfl rfl) (C1 Mv (cT ?_));refine Au ?_;refine AQ (ι:=Nat) (λj=>[(0,.slice a vs.length c),(3,pt b1),(4,.slice none 0 0),(5,.bool false),(19,.agg #[.int .i64 bv,.int .i64 bl,.int .i64 bi]),(20,.int .i64 j)])
  (λj w'=>j<=3/\Blk w' b1 [.int .i64 bv,.int .i64 bl,.int .i64 bi]/\VDs (· < w.heap.size) w' vs a/\Ext w w') (λj=>3-j) 0 sB ⟨Ab,U,M,X⟩ ?_
 rintro j w1 ⟨hj,U,M,X⟩;by_cases bo:j<3
 . obtain ⟨x,hx,q1,q2⟩:∃x,[iW .i64 bv,.int .i64 bl,.int .i64 bi][((j:Int)).toNat]? = some (.int .i64 x)/\0<=x/\x<=1000:=by
    rw [Int.toNat_natCast];rcases (show j=0\/j=1\/j=2 by omega) with rfl|rfl|rfl
    . exact ⟨bv,rfl,o1,o2⟩
    . exact ⟨bl,rfl,o3,o4⟩
    . exact ⟨bi,rfl,o5,o6⟩
   refine eK ?_;refine C1 (ML (vs:=[.int .i64 bv,.int .i64 bl,.int .i64 bi]) Ac rfl rfl rfl rfl rfl Ab Ab hx) (C1 Pa (cN (C1 Mv (C1 V3 (C1 Mv (EA (C1 Mv (EA (C1 V5 (C1 NY (cT (Dz (Ao (Ah (Ai (Al (C1 V7 (C1 Mv (Ak ?_)))))))))))))))))));exact AA (j+1) sB ⟨Ab,Ae,Ae,X⟩ Ab
 . obtain rfl:j=3:=by omega
   have bp:=U.lt;refine kQ (HN.out _ Ae) ?_;rintro _ bq ⟨ah,aw,a2,a3,⟨⟩,ag,ax⟩;revert U M X;refine eY ax ?_;intro br U M X;refine eK ?_;refine xA [_,_,_] ?_;intro bs a4 ai;refine eI [_,_,_] ai ?_;intro aa aj ak a5 a6;revert ag U M X;refine eE ak ?_;intro ag U M X;refine C1 Pa (cT (Aj (cS (C1 Mv (C1 V2 (cT (NH (Ao (Ai (cS (C1 Pa (cT (Aj (cS (C1 Pg (C1 (Pl aj) (C1 Pz (C1 Mv (cT ?_)))))))))))))))))));refine Au ?_;refine AQ (ι:=Nat×oA×Nat) (λx=>[(0,.slice a vs.length c),(3,pt b1),(10,.slice x.2.1 (ms.take x.1).length x.2.2),(38,.slice ah vs.length aw),(39,.int .i64 vs.length),(40,.int .i64 x.1)])
    (λx w'=>x.1<=vs.length/\OwnQ CX w' (λ_=>False) aa.heap.size 135 (.slice x.2.1 (ms.take x.1).length x.2.2) (ms.take x.1)/\Blk w' b1 [.int .i64 bv,.int .i64 bl,.int .i64 bi]/\ICs (· < aa.heap.size) w' (C9 vs) ah/\VDs (· < w.heap.size) w' vs a/\Ext w w'/\aa.heap.size<=w'.heap.size)
    (λx=>vs.length-x.1) (0,none,0) sB ⟨ii _,mP,U,ag.wide (λb h=>by omega),M,X,ip _⟩ ?_
   have al:=X.size;rintro ⟨j,ra,rc⟩ w3 ⟨ay,G,U,O,M,X,bt⟩;simp only at ay G;have V:∀g',(iD ra (ms.take j).length rc).ownBlock=some g'->aa.heap.size<=g'/\g'<w3.heap.size:=λg' h=>⟨G.ge h,G.lt h⟩
   have bu:(ms.take j).length<=1000000:=by rw [iO];omega
   by_cases ab:j<vs.length
   . obtain ⟨kb,ko,rfl,kS,hk⟩:=mw M Ab;have rx:=hk j _ (gN ab);obtain ⟨db,bw,rfl,dS,hd⟩:=O.get (by intro e;rw [e] at hz;simp at hz;omega);obtain ⟨xa,xc,ry,-⟩:=hd j _ (gN (show j<(C9 vs).length by omega));obtain ⟨f1,f2⟩:=HL.out j ab;have am:((C9 vs)[j]'(by omega)).length=(CT vs[j]).toNat:=by simp [C9]
     rw [am] at ry;have hn:=af j ab;rw [f2] at hn;rw [<-f1] at hn;generalize (CT vs[j]).toNat=N at *;generalize vs[j]=x at *;obtain ⟨xn,xk,xl⟩:=x;replace rx:Row w3 ⟨kb,ko+j*3,none⟩ [str xn,.int .u8 xk,.int .i64 xl]:=rx;simp only at hn;by_cases an:xk=3
     . rw [AH an] at hn;generalize ms.take j=ys at *;refine eK ?_;refine C1 (Pw rx) (eK ?_);refine C1 (xB [_,_]) (Ax (xS [_,_]) rfl ?_ aFh);rintro _ bx ⟨bz,rfl,ac,b0⟩;have b2:=ac.blk;have az:=ac.ext;have b3:=ac.pos;have b4:=ac.size;revert U X M O G;refine eE az ?_;intro U X M O G;refine Di (R:=λ_=>False) (sh:=CX) (z:=(0,bl)) Ac CJ rfl rfl rfl rfl AU rfl rfl rfl Ae (λ_ h=>by exact h) (mi Ae) rfl Ab Ab rfl ?_;rintro b5 ao a7 a8 a9 ba Y;have bb:=Y.size;have U:=lY U Y (λe=>by have:=V _ e;omega);have X:=me X Y (λk hk=>by have:=V _ hk;omega);have M:=mB M Y (λb hb hT=>by have:=V _ hT;(try dsimp only at hb);omega);have O:=ICs.fr O Y (λb hb hT=>by have:=V _ hT;(try dsimp only at hb);omega);refine C1 Pa (Ak (Ah (Ai (Al (C1 V7 (C1 Mv (Ak ?_)))))));exact AA (j+1,some ⟨_,0,none⟩,_) (by dsimp only;rw [<-hn];(refine An rfl ?_;refine An rfl ?_;refine An rfl ?_;refine An rfl ?_;refine An rfl ?_;refine An rfl ?_;exact BK)) ⟨by (try dsimp only);omega,by dsimp only;rw [<-hn];assumption,U,O,M,X,Ab⟩ (by (try dsimp only);omega)
     . rw [At an] at hn;generalize ms.take j=ys at *;refine eK ?_;refine C1 (Pw rx) (eK ?_);refine C1 (xB [_,_]) (Ax (xS [_,_]) rfl ?_ aFh);rintro _ b6 ⟨b7,rfl,ad,b8⟩;have b9:=ad.blk;have a0:=ad.ext;have ca:=ad.pos;have cb:=ad.size;revert U X M O G;refine eE a0 ?_;intro U X M O G;refine Di (R:=λ_=>False) (sh:=CX) (z:=((N:Int),(N:Int))) Ac CJ rfl rfl rfl rfl AU rfl rfl rfl Ae (λ_ h=>by exact h) (mi Ae) rfl Ab Ab rfl ?_;rintro cc ap bc bd be bf Z;have bg:=Z.size;have U:=lY U Z (λe=>by have:=V _ e;omega);have X:=me X Z (λk hk=>by have:=V _ hk;omega);have M:=mB M Z (λb hb hT=>by have:=V _ hT;(try dsimp only at hb);omega);have O:=ICs.fr O Z (λb hb hT=>by have:=V _ hT;(try dsimp only at hb);omega);refine C1 Pa (Ak (Ah (Ai (Al (C1 V7 (C1 Mv (Ak ?_)))))));exact AA (j+1,some ⟨_,0,none⟩,_) (by dsimp only;rw [<-hn];(refine An rfl ?_;refine An rfl ?_;refine An rfl ?_;refine An rfl ?_;refine An rfl ?_;refine An rfl ?_;exact BK)) ⟨by (try dsimp only);omega,by dsimp only;rw [<-hn];assumption,U,O,M,X,Ab⟩ (by (try dsimp only);omega)
   . obtain rfl:j=vs.length:=by omega
     rw [show ms.take vs.length=ms by rw [<-av,im]] at *;refine eK ?_;refine C1 (xB [_,_]) (Ax (xS [_,_]) rfl ?_ aFh);rintro _ cd ⟨ce,rfl,ae,cf⟩;have cg:=ae.blk;have a1:=ae.ext;have ch:=ae.pos;have ci:=ae.size;revert X G;refine eE a1 ?_;intro X G;refine Di (R:=λ_=>False) (sh:=CX) (z:=(0,bi)) Ac CJ rfl rfl rfl rfl AU rfl rfl rfl Ae (λ_ h=>by exact h) (mi Ae) rfl Ab Ab rfl ?_;rintro cj aq bh bj bk bm ar;have X:=me X ar (λk hk=>by have:=V _ hk;omega);refine kT ?_;exact ⟨_,_,rfl,OwnQ.bdsN Ae al,X⟩
def Vq (vs:List VD) (b:BoxV) (G:b.ok) (M:C3 vs) (S:nP) (a:oA) (c:Nat) (w:wD) (N:VDs S w vs a) :
 Calls prog 72 #[.slice a vs.length c,.agg #[.int .i64 b.v,.int .i64 b.l,.int .i64 b.i]] w (LensR (CV vs b) w):=
 (MM vs b G M S a c w N).mono λ_ _ ⟨a,c,h1,h2,h3⟩=>⟨a,c,h1,Arr.mono h2 (λ_ _=>trivial) (λ_ _ _ _ _ h=>h),h3⟩
def Rc (l:List (Int×Int)) (y:Int) (j:Nat) (h:j<l.length):DK (l.take (j+1)) y=FX (DK (l.take j) y) (Ms l[j] y):=by
 unfold DK;rw [gS h,List.foldl_append];rfl
def Zh (vs:List VD) (hl:vs.length<=1000000) (b:BoxV) (S:nP) (a:oA) (c:Nat) (w:wD) (hs:VDs S w vs a) :
 Calls prog 43 #[.slice a vs.length c,.agg #[.int .i64 b.v,.int .i64 b.l,.int .i64 b.i]] w λe w'=>e = .returned (.tuple #[.int .i64 (Hn vs b).1,.int .i64 (Hn vs b).2])/\Ext w w':=by
 have X:=Ne w;by_cases U:b.ok/\C3 vs
 . have HL:=gO (λw1 h=>Vq vs b U.1 U.2 S a c w1 h);have hb:=Pq U.1 U.2;have an:=KI vs b;have hy:1<=2*b.v+1/\2*b.v+1<=2001:=by have:=U.1.1;omega
   have aa:∀j,1<=DK ((CV vs b).take j) (2*b.v+1)/\DK ((CV vs b).take j) (2*b.v+1)<=1099511627777:=λj=>
    Oa _ 1 _ hy.1 (λp hp=>by have:=hb p (jz hp);omega) Ab Ab
   have HS:=gO (λj h=>Rc (CV vs b) (2*b.v+1) j h);unfold Hn;rw [AH U];obtain ⟨M,Y,Z⟩:=b;simp only at hy aa HS HL ⊢;have hE:DK (CV vs ⟨M,Y,Z⟩) (2*M+1)=DK ((CV vs ⟨M,Y,Z⟩).take (CV vs ⟨M,Y,Z⟩).length) (2*M+1):=by rw [im]
   generalize CV vs ⟨M,Y,Z⟩=N at *;have HB:=gO hb;have H1:=gO aa;refine Ad func43 ntmps43 rfl rfl (cS (eB [_,_,_] ?_));intro b1 w2 O x5 _ _;revert hs X;refine eE x5 ?_;intro hs X;refine kQ (HL.out _ Ae) ?_;rintro _ aq ⟨a8,c9,⟨⟩,G,ae⟩;revert O X;refine eE ae ?_;intro O X;refine C1 Mv (C1 Px (C1 Px (C1 Pa (C1 Pa (cT (Aj (cS (C1 Mv (C1 Pt (cT (Ba rfl (Ao (Ai (cS (C1 Pa (cT (Aj (cS (C1 Mv (C1 Pz (C1 Mv (cT ?_))))))))))))))))))))));have hm:jo .i64 (2*M)=2*M:=gX _ Ab;refine Au ?_;refine AQ (ι:=Nat) (λj=>[(3,pt b1),(8,.int .i64 (DK (N.take j) (2*M+1))),(19,.slice a8 N.length c9),(20,.int .i64 N.length),(21,.int .i64 j)])
    (λj w'=>j<=N.length/\Blk w' b1 [.int .i64 M,.int .i64 Y,.int .i64 Z]/\Bds w' N a8/\Ext w w') (λj=>N.length-j) 0 sB ⟨ii _,O,G,X⟩ ?_
   rintro j w3 ⟨hj,O,G,X⟩;have h1:=H1.out j;by_cases V:j<N.length
   . obtain ⟨kb,ko,rfl,-,hk⟩:=mw G Ab;have rx:=hk j _ (gN V);have hp:=HB.out _ (ig V);have hq:=HS.out j V;have af:=WN hy.1 hp.1 hp.2.1;have HC:=gO (λw1=>Rb N[j] (2*M+1) Ab Ab Ab w1);have HP:=gO (λw1=>Oi (DK (N.take j) (2*M+1)) (Ms N[j] (2*M+1)) h1 af w1);generalize Ms N[j] (2*M+1)=q at *;generalize DK (N.take j) (2*M+1)=s at *;generalize N[j]=p at *;obtain ⟨p1,p2⟩:=p;replace rx:Row w3 ⟨kb,ko+j*2,none⟩ [.int .i64 p1,.int .i64 p2]:=rx;simp only at hp HC;refine eK ?_;refine xA [_,_] ?_;intro ar au ag;refine eI [_,_] ag ?_;intro av ah ai _ _;revert O X G;refine eE ai ?_;intro O X G;refine eK ?_;refine A1 [_,_] Ac rfl rfl rfl ah rfl rfl rfl (eK ?_);refine C1 (Ik rfl rfl hm) (C1 V7 (cC rfl (HC.out _) ?_));rintro _ ao ⟨⟨⟩,aj⟩;revert O X G;refine eE aj ?_;intro O X G;refine cC rfl (HP.out _) ?_;rintro _ ap ⟨⟨⟩,ab⟩;revert O X G;refine eE ab ?_;intro O X G;refine C1 Pa (Ak (Ah (Ai (Al (C1 V7 (C1 Mv (Ak ?_)))))));exact AA (j+1) (by rw [hq];(refine An rfl ?_;refine An rfl ?_;refine An rfl ?_;refine An rfl ?_;refine An rfl ?_;exact BK)) ⟨Ab,Ae,Ae,X⟩ Ab
   . obtain rfl:j=N.length:=by omega
     rw [<-hE] at *;generalize DK N (2*M+1)=s at *;by_cases ac:1099511627776<s
     . rw [AH ac];refine kT ?_;exact ⟨rfl,X⟩
     . rw [At ac];refine kT ?_;exact ⟨rfl,X⟩
 . have HL:=gO (λw1 h=>Oj vs hl b U S a c w1 h);rw [show Hn vs b=(0,1) by unfold Hn;rw [At U]];obtain ⟨M,Y,Z⟩:=b;refine Ad func43 ntmps43 rfl rfl (cS (Du [_,_,_] rfl rfl rfl ?_));intro aw ax ad;have ak:=ad.blk;dsimp only at ak;have al:=ad.ext;revert hs X;refine eE al ?_;intro hs X;refine kC (HL.out _ Ae) ?_;rintro _ ay ⟨⟨⟩,am⟩;have X:=X.ext am;refine kT ?_;exact ⟨rfl,X⟩
structure EX.wf (e:EX):Prop where
 name:e.name.length<=9223372036854775807
 g:e.g.wf
 few:e.g.vars.length<=1000000
structure EX.sits (S:nP) (w:wD) (e:EX) (va pa ma:oA) (vc:Nat):Prop where
 g:e.g.sits S w va pa ma
 p:PDsC S w e.g.procs pa
 room:e.g.vars.length<=vc
def EX.sits.ext {S:nP} {w w':wD} {e:EX} {G M N:oA} {vc:Nat} (h:e.sits S w G M N vc) (x:Ext w w'):e.sits S w' G M N vc:=⟨h.g.ext x,h.p.ext x,h.room⟩
instance {e:EX} {G M:oA} {vc:Nat}:LfE w w' (e.sits S w G M N vc) (e.sits S w' G M N vc):=⟨λx h=>Bk.EX.sits.ext h x⟩
def EX.sits.fr {S T:nP} {w w':wD} {e:EX} {G M N:oA} {vc:Nat} (h:e.sits S w G M N vc) (x:Fr T w w') (O:∀b,S b -> ¬T b):e.sits S w' G M N vc:=⟨h.g.fr x O,h.p.fr x O,h.room⟩
instance {T:nP} {e:EX} {G M:oA} {vc:Nat}:LfF T w w' (e.sits S w G M N vc) (∀b,S b -> ¬T b) (e.sits S w' G M N vc):=⟨λx s h=>Bk.EX.sits.fr h x s⟩
def EX.sits.ltA {S:nP} {w:wD} {e:EX} {G M N:oA} {vc:Nat} (h:e.sits S w G M N vc):e.sits (· < w.heap.size) w G M N vc:=⟨h.g.ltA,h.p.ltA,h.room⟩
def aU (M:g.wf) (S:nP) (N:oA) (vc:Nat) (G:oA) (X:Nat) (O:oA) (Y:Nat) (w:wD) (Z:g.sits S w N G O) (U:PDsC S w g.procs G) (V:g.vars.length<=vc) :
 Calls prog 41 #[.agg (g.cells N vc G X O Y).toArray] w λe w'=>e = .returned (.bool (decide g.acc))/\Ext w w':=
 (eJ g M S N vc G X O Y w Z U V).mono λe w' ⟨q,h1,h2,h3⟩=>⟨by rw [h1];congr 2;cases q;exact (decide_eq_false (λh=>by cases h2.2 h)).symm;exact (decide_eq_true (h2.1 rfl)).symm,h3⟩
def KO (e:EX) (hw:e.wf) (S:nP) (va:oA) (vc:Nat) (pa:oA) (pc:Nat) (ma:oA) (mc:Nat) (w:wD) (hs:e.sits S w va pa ma vc) :
 Calls prog 21 #[.agg (e.cells va vc pa pc ma mc).toArray] w λr w'=>r = .returned (.bool (decide e.valid))/\Ext w w':=by
 have X:=Ne w;obtain ⟨ac,M,N⟩:=hw;obtain ⟨Y,hp,ad⟩:=hs.ltA;have Z:=gO (λw1=>KH e.name w1 ac);have HC:=gO (λw1 O U=>aU M (· < w.heap.size) va vc pa pc ma mc w1 O U ad);have HE:=gO (λw1 h=>Zh e.g.vars N e.box (· < w.heap.size) va vc w1 h);by_cases O:e.num
 . unfold EX.cells EX.valid;unfold EX.num at O ⊢;obtain ⟨en,ep,ef,⟨bv,bl,bi⟩,g⟩:=e;simp only at ac M N Y hp ad Z HC HE O ⊢;obtain ⟨o1,⟨o2,o3⟩,o4,o5⟩:=O;rw [o1] at Z;simp only [o1,o2,o3,o4,o5,true_and,and_self];have G:=Y.vars;refine Ad func21 ntmps21 rfl rfl (cS (eB [_,_,_,_,_,_,_,_,_,_,_,_] ?_));intro b1 w2 V x5 _ _;revert X Y hp G;refine eE x5 ?_;intro X Y hp G;refine kC (Z.out _) ?_;rintro _ w9 ⟨⟨⟩,x8⟩;revert V X Y hp G;refine eE x8 ?_;intro V X Y hp G;refine eK ?_;by_cases U:g.acc
   . have HI:=gO (λw1 h=>Lr M U.1 (· < w.heap.size) va vc pa pc ma mc w1 h);rw [<-PG.pinv_eq] at HI;have HD:=gO (λva vc pa pc ma mc w1 S O al h3=>aU (PG.pinv_wf M U.1) S va vc pa pc ma mc w1 O al h3);rw [decide_eq_true U] at HC;simp only [U,true_and];refine kC (HC.out _ Ae Ae) ?_;rintro _ a9 ⟨⟨⟩,am⟩;revert V X Y G;refine eE am ?_;intro V X Y G;refine eK ?_;refine Ax (AN AU rfl (HI.out _ Ae) (λ_ _ ⟨_,_,_,_,_,_,h⟩=>⟨_,h.1⟩)) rfl ?_ aFh;rintro _ ax ⟨ay,az,a0,a1,a2,a3,⟨⟩,aa,ab,a4,ae⟩;revert V X G;refine eE ae ?_;intro V X G;refine eK ?_;refine xA [_,_,_,_,_,_] ?_;intro a5 a6 af;refine eI [_,_,_,_,_,_] af ?_;intro a7 a8 ag _ _;revert aa ab V X G;refine eE ag ?_;intro aa ab V X G;refine eK ?_;by_cases h3:g.pinv.acc
     . rw [decide_eq_true h3] at HD;simp only [h3,true_and];generalize g.pinv=u at *;generalize Hn g.vars ⟨bv,bl,bi⟩=r at *;obtain ⟨n,k⟩:=r;simp only at HE ⊢;refine kC (HD.out _ _ _ _ _ _ _ _ Ae Ae Ae) ?_;rintro _ ba ⟨⟨⟩,an⟩;revert V X G;refine eE an ?_;intro V X G;refine kC (HE.out _ Ae) ?_;rintro _ bb ⟨⟨⟩,ao⟩;have X:=X.ext ao;refine eK ?_;by_cases hk:k=0
       . subst hk;simp only [true_and];refine kR ?_;exact ⟨rfl,X⟩
       . simp only [hk,false_and,decide_false];refine kR ?_;exact ⟨rfl,X⟩
     . rw [decide_eq_false h3] at HD;simp only [h3,false_and,decide_false];generalize g.pinv=u at *;refine kC (HD.out _ _ _ _ _ _ _ _ Ae Ae Ae) ?_;rintro _ bc ⟨⟨⟩,ap⟩;have X:=X.ext ap;refine kR ?_;exact ⟨rfl,X⟩
   . rw [decide_eq_false U] at HC;simp only [U,false_and,decide_false];refine kC (HC.out _ Ae Ae) ?_;rintro _ bd ⟨⟨⟩,aq⟩;have X:=X.ext aq;refine kR ?_;exact ⟨rfl,X⟩
 . rw [decide_eq_false (λh=>O h.1)];unfold EX.cells;unfold EX.num at O;obtain ⟨en,ep,ef,⟨bv,bl,bi⟩,g⟩:=e;simp only at ac M N Y hp ad Z HC HE O ⊢;cases o1:Cv en
   . rw [o1] at Z;refine Ad func21 ntmps21 rfl rfl (cS (eB [_,_,_,_,_,_,_,_,_,_,_,_] ?_));intro be bf bg ar _ _;have X:=X.ext ar;refine kC (Z.out _) ?_;rintro _ bh ⟨⟨⟩,au⟩;have X:=X.ext au;refine kR ?_;exact ⟨rfl,X⟩
   . rw [o1] at Z;have U:¬((1<=ep/\ep<=1000)/\0<=ef/\ef<=1000000):=λh=>O ⟨o1,h⟩
     refine Ad func21 ntmps21 rfl rfl ?_
     focus
      refine cS (eB [_,_,_,_,_,_,_,_,_,_,_,_] ?_);intro bj bk ah av _ _;have X:=X.ext av;refine kC (Z.out _) ?_;rintro _ bm ⟨⟨⟩,aw⟩;revert ah X;refine eE aw ?_;intro ah X;refine eK ?_;refine B0 rfl rfl rfl (λai=>?_) (λai=>?_);refine kR ?_;rotate_left;refine eK ?_;refine B0 rfl rfl rfl (λaj=>?_) (λaj=>?_);refine kR ?_;rotate_left;refine eK ?_;refine B0 rfl rfl rfl (λak=>?_) (λak=>?_);refine kR ?_;rotate_left;refine kR ?_;rotate_left
     all_goals first|exact ⟨rfl,X⟩|exact absurd Ab U
def Zi (e:EX) (hw:e.wf) (hv:e.valid) (S:nP) (Y:oA) (vc:Nat) (Z:oA) (pc:Nat) (ma:oA) (mc:Nat) (w:wD) (M:e.sits S w Y Z ma vc) :
 Calls prog 28 #[.agg (e.cells Y vc Z pc ma mc).toArray] w (Lq e.g.pinv 0 w):=by
 have X:=Ne w;have M:=M.ltA;have HV:=gO (λw1 h=>KO e hw (· < w.heap.size) Y vc Z pc ma mc w1 h);rw [decide_eq_true hv] at HV;have HI:=gO (λw1 h=>Lr hw.g hv.2.1.1 (· < w.heap.size) Y vc Z pc ma mc w1 h);rw [<-PG.pinv_eq] at HI;have U:=M.g;unfold EX.cells at *;generalize e.g.pinv=u at *;refine Ad func28 ntmps28 rfl rfl (cS (eB [_,_,_,_,_,_,_,_,_,_,_,_] ?_));intro b1 w2 V x5 p6 z7;revert X M U;refine eE x5 ?_;intro X M U;refine eA [_,_,_,_,_,_] ?_;intro b8 w9 G aa al am;revert V X M U;refine eE aa ?_;intro V X M U;refine eK ?_;refine A1 [_,_,_,_,_,_,_,_,_,_,_,_] Ac rfl rfl rfl V rfl rfl rfl (cC rfl (HV.out _ Ae) ?_);rintro _ an ⟨⟨⟩,ab⟩;revert G V X U;refine eY ab ?_;intro ao G V X U;refine eK ?_;refine Ax (AN AU rfl (HI.out _ Ae) (λ_ _ ⟨_,_,_,_,_,_,h⟩=>⟨_,h.1⟩)) rfl ?_ aFh;rintro _ ap ⟨af,ag,ah,ai,aj,ak,⟨⟩,N,O,ac,ad⟩;revert G X;refine eE ad ?_;intro G X;refine eK ?_;refine eS [_,_,_,_,_,_] G ?_;intro aq ar ae au;revert N O X;refine eF ae ?_;intro N O X;refine eK ?_;refine C4 rfl Ac rfl rfl rfl Ae rfl rfl ?_;exact Oh N O ac X Ab Ab
def PgC (u:PG) (w:wD):Ending->wD->Prop:=λe w'=> ∃va vc pa pc ma mc,e = .returned (.agg (u.cells va vc pa pc ma mc).toArray)/\u.sits (λb=>w.heap.size<=b/\b<w'.heap.size) w' va pa ma/\PDsC (λb=>w.heap.size<=b/\b<w'.heap.size) w' u.procs pa/\u.vars.length<=vc/\Ext w w'
def PgC.ret {u:PG} (h:PgC u w e w'):∃v,e = .returned v:=by
 obtain ⟨_,_,_,_,_,_,h,-⟩:=h;exact ⟨_,h⟩
def cA {G O:oA} {vc e:Nat} {xs:List PD} {Y S2:nP} (hx:xs=g.procs) (hv:VDs Y w' g.vars G) (hc:g.vars.length<=vc) (ho:OwnL E9 w' n e (.slice N xs.length r) xs) (hm:g.main.sits S2 w' O) (X:Ext w w') (k1:∀b,Y b->w.heap.size<=b) (k2:∀b,S2 b->w.heap.size<=b) (kM:w.heap.size<=n) :
 PgC g w (.returned (.agg #[.slice G g.vars.length vc,.slice N xs.length r,.int .u8 g.main.kind,.int .i64 g.main.num,str g.main.name,.slice O g.main.kids.length m])) w':=by
 subst hx;have Z:=PDsC.wide (PDsC.lt2 (ho.pdsC (S:=λb=>n<=b) (λb hb=>hb))) (S':=λb=>w.heap.size<=b/\b<w'.heap.size) λb h=>⟨Ab,h.2⟩
 exact ⟨G,vc,N,r,O,m,rfl,⟨hv.lt2.wide λb h=>⟨k1 b h.1,h.2⟩,Z.pds,l6 (Gq _ _ hm) λb h=>⟨k2 b h.1,h.2⟩⟩,Z,hc,X⟩
set_option maxHeartbeats 8000000 in
def Xe (g:PG) (hf:g.few) (S:nP) (va:oA) (vc:Nat) (pa:oA) (pc:Nat) (ma:oA) (mc:Nat) (w:wD) (hs:g.sits S w va pa ma) :
 Calls prog 31 #[.agg (g.cells va vc pa pc ma mc).toArray] w (PgC g w):=by
 have X:=Ne w;obtain ⟨nv,np,bo,az⟩:=hf;have HI:=gO (JU g.main bo);have HC:=gO (Io g.vars Ab);have HQ:=gO az;clear az;have hs:=hs.ltA;refine Ad func31 ntmps31 rfl rfl ?_;refine cS (eB [_,_,_,_,_,_] ?_);intro b1 w2 h4 x5 p6 z7;revert X hs;refine eE x5 ?_;intro X hs;refine eA [_,_,_,_,_,_] ?_;intro b8 w9 N bp dy dz;revert h4 X hs;refine eE bp ?_;intro h4 X hs;refine cT ?_;refine FZ (ι:=Nat×oA×Nat×oA×Nat) (λx=>[(1,pt b1),(2,pt b8),(3,pt x.1)])
  (λx w'=>Blk w' x.1 [.slice x.2.1 g.vars.length x.2.2.1,.slice none 0 0,.int .u8 g.main.kind,.int .i64 g.main.num,str g.main.name,.slice x.2.2.2.1 g.main.kids.length x.2.2.2.2]/\VDs (λb=>b8<b/\b≠x.1/\b<w'.heap.size) w' g.vars x.2.1/\g.main.sits (λb=>b8<b/\b≠x.1/\b<w'.heap.size) w' x.2.2.2.1/\b8<x.1/\x.1<w'.heap.size/\g.vars.length<=x.2.2.1 /\
   Blk w' b1 [.slice va g.vars.length vc,.slice pa g.procs.length pc,.int .u8 g.main.kind,.int .i64 g.main.num,str g.main.name,.slice ma g.main.kids.length mc]/\Blk w' b8 [.slice none 0 0,.slice none 0 0,.int .u8 0,.int .i64 0,str [],.slice none 0 0]/\g.sits (· < w.heap.size) w' va pa ma/\Ext w w') ?_ ?_
 . clear HQ;have hv:=hs.vars;have ac:=hs.main
   focus
    refine Aq (λwz=>Ext w9 wz) 8 (.pure 0 (.pure 1 (.pure 3 (.pure 4 (.fork 2 (.fork 5 (.pure 6 (.fork 7 .tail .none)) (.fork 7 (.fork 5 (.pure 6 .tail) .none) .none)) (.fork 7 (.fork 2 (.fork 5 (.pure 6 .tail) .none) .none) .none)))))) mixed AU (Aa Ag) ?_;intro br a0 _;have G:(λwz=>Ext w9 wz) br:=a0;simp only at G;have a1:=h4;revert N h4 X hs hv ac;refine eY a0 ?_;intro d0 N h4 X hs hv ac;refine ⟨G,?_⟩;refine eT ?_;refine Tq rfl (xL [_,_,_,_] (λwz hz=>(l9 a1 hz))) ?_;refine AE rfl (AN AU rfl (HC.out _ _ _ _ Ae) (λ_ _ h=>h.ret)) rfl ?_ aFh ?kra5;rintro _ b4 ⟨d1,d2,⟨⟩,ab,bs,b5⟩;revert G N h4 X hs ac;refine eY bs ?_;intro b6 G N h4 X hs ac;refine ⟨G,?_⟩;refine AE rfl (AN AU rfl (HI.out _ _ _ _ Ae) (λ_ _ h=>h.ret)) rfl ?_ aFh ?kra13;rintro _ b7 ⟨b9,ca,⟨⟩,af,a2⟩;revert ab G N h4 X hs;refine eY a2 ?_;intro cb ab G N h4 X hs;refine ⟨G,?_⟩;refine Tq rfl (xB [_,_,_,_,_,_]) ?_;refine AE rfl (Bb CJ rfl) rfl ?_ aFh AC;rintro _ cc ⟨cd,rfl,ag⟩;have ao:=ag.blk;dsimp only at ao;have a3:=ag.ext;have ce:=ag.pos;have cf:=ag.size;revert af ab G N h4 X hs;refine eE a3 ?_;intro af ab G N h4 X hs;refine ⟨G,?_⟩;refine Ar rfl (eS [_,_,_,_,_,_] ao ?_);intro cg ch a4 ci;revert af ab N h4 X hs;refine eF a4 ?_;intro af ab N h4 X hs;refine Ak ?_;rotate_left;refine AE rfl (Bb CJ rfl) rfl ?_ aFh AC;rintro _ cj ⟨ck,rfl,ah⟩;have ai:=ah.blk;dsimp only at ai;have a5:=ah.ext;have cl:=ah.pos;have cm:=ah.size;revert ab G N h4 X hs ac;refine eE a5 ?_;intro ab G N h4 X hs ac;refine ⟨G,?_⟩;refine tC rfl rfl (HI.out _ _ _ _ Ae) ?_;rintro _ cn ⟨co,cp,⟨⟩,ap,a6⟩;revert ai ab G N h4 X hs;refine eY a6 ?_;intro cq ai ab G N h4 X hs;refine ⟨G,?_⟩;refine Tq rfl (xB [_,_,_,_,_,_]) ?_;refine Ar rfl (eS [_,_,_,_,_,_] ai ?_);intro cr ct a7 cu;revert ap ab N h4 X hs;refine eF a7 ?_;intro ap ab N h4 X hs;refine Ak ?_;rotate_left;refine AE rfl (Bb CJ rfl) rfl ?_ aFh AC;rintro _ cv ⟨cw,rfl,aj⟩;have ad:=aj.blk
    dsimp only at ad;have a8:=aj.ext;have cx:=aj.pos;have cy:=aj.size;revert G N h4 X hs hv ac;refine eE a8 ?_;intro G N h4 X hs hv ac;refine ⟨G,?_⟩;refine tC rfl rfl (HC.out _ _ _ _ Ae) ?_;rintro _ cz ⟨c0,c1,⟨⟩,ak,a9,c2⟩;revert ad G N h4 X hs ac;refine eY a9 ?_;intro c3 ad G N h4 X hs ac;refine ⟨G,?_⟩;refine tC rfl rfl (HI.out _ _ _ _ Ae) ?_;rintro _ c4 ⟨c5,c6,⟨⟩,aq,ba⟩;revert ak ad G N h4 X hs;refine eY ba ?_;intro c7 ak ad G N h4 X hs;refine ⟨G,?_⟩;refine Tq rfl (xB [_,_,_,_,_,_]) ?_;refine Ar rfl (eS [_,_,_,_,_,_] ad ?_);intro c8 c9 bb da;revert aq ak N h4 X hs;refine eF bb ?_;intro aq ak N h4 X hs;refine Ak ?_;rotate_left
   all_goals exact BY (_,_,_,_,_) sC ⟨Ae,mV Ae (λb h=>⟨Ab,Ab,Ab⟩),l6 Ae (λb h=>⟨Ab,Ab,Ab⟩),Ab,Ab,Ae,Ae,Ae,Ae,Ae⟩
 . clear h4 N hs X;rintro ⟨bq,bc,bt,bd,bu⟩ w1 ⟨Y,U,V,o1,o2,be,aa,Z,hs,X⟩;simp only at Y U V o1 o2 be;have hp:=hs.procs;have hz:=ip w1.heap.size;clear hs HI HC;refine eK ?_;refine AQ (ι:=Nat×List PD×oA×Nat) (λx=>[(1,pt b1),(2,pt b8),(3,pt bq),(14,.slice pa g.procs.length pc),(15,.int .i64 g.procs.length),(16,.int .i64 x.1)])
    (λx w'=>OwnL E9 w' w1.heap.size 116 (.slice x.2.2.1 x.2.1.length x.2.2.2) x.2.1/\x.2.1=g.procs.take x.1/\x.1<=g.procs.length/\Blk w' bq [.slice bc g.vars.length bt,.slice x.2.2.1 x.2.1.length x.2.2.2,.int .u8 g.main.kind,.int .i64 g.main.num,str g.main.name,.slice bd g.main.kids.length bu]/\VDs (λb=>b8<b/\b≠bq/\b<w1.heap.size) w' g.vars bc/\g.main.sits (λb=>b8<b/\b≠bq/\b<w1.heap.size) w' bd /\
     Blk w' b1 [.slice va g.vars.length vc,.slice pa g.procs.length pc,.int .u8 g.main.kind,.int .i64 g.main.num,str g.main.name,.slice ma g.main.kids.length mc]/\Blk w' b8 [.slice none 0 0,.slice none 0 0,.int .u8 0,.int .i64 0,str [],.slice none 0 0]/\PDs (· < w.heap.size) w' g.procs pa/\Ext w w'/\w1.heap.size<=w'.heap.size)
    (λx=>g.procs.length-x.1) (0,[],none,0) sB ⟨OwnL.nil,AK,ii _,Y,U,V,aa,Z,hp,X,hz⟩ ?_
   clear Y U V aa Z hp X hz;rintro ⟨j,xs,ra,rc⟩ w3 ⟨M,am,hj,Y,U,V,aa,Z,hp,X,hz⟩;simp only at M am hj Y;have bf:∀g',(iD ra xs.length rc).ownBlock=some g'->w1.heap.size<=g'/\g'<w3.heap.size:=λg' h=>⟨M.ge h,M.lt h⟩
   have d3:xs.length<=1000000:=by rw [am,iO];omega
   refine mK (m:=[(1,pt b1),(2,pt b8),(3,pt bq),(14,.slice pa g.procs.length pc),(15,.int .i64 g.procs.length),(16,.int .i64 (j:Int))]) ?_ sB;by_cases aw:j<g.procs.length
   . obtain ⟨kb,ko,rfl,kS,hk⟩:=mw hp Ab;obtain ⟨xa,xc,ya,yc,rx,vx,sx⟩:=hk j _ (gN aw);have d4:=HQ.out _ (ig aw);have HX:=gO (JU g.procs[j].body Ab);have HC:=gO (Io g.procs[j].params Ab);have ax:xs++[g.procs[j]]=g.procs.take (j+1):=by rw [am];exact (gS aw).symm
     clear hk HQ am;generalize g.procs[j]=x at *;refine eK ?_;refine xA [_,_,_,_,_,_] ?_;intro d5 d6 bv;refine eI [_,_,_,_,_,_] bv ?_;intro bg bh bw d7 d8;revert M Y U V Z X aa hp vx sx;refine eE bw ?_;intro M Y U V Z X aa hp vx sx;refine cT (Aq (λwz=>Ext bg wz) 12 (.pure 0 (.pure 1 (.pure 2 (.pure 3 (.pure 4 (.pure 5 (.pure 7 (.pure 8 (.fork 6 (.fork 9 (.pure 10 (.fork 11 .tail .none)) .none) .none))))))))) mixed AU (Af (Aa (Aa (Af (Aa Ag))))) ?_);intro bx ar _;have O:(λwz=>Ext bg wz) bx:=ar;simp only at O;have ay:=bh;have bz:=Y;revert M Y U V Z X aa hp vx sx;refine eY ar ?_;intro db M Y U V Z X aa hp vx sx;refine ⟨O,?_⟩;refine eT ?_;refine Tq rfl (xL [_,_,_,_] (λwz hz=>(l9 ay hz))) ?_;refine tC rfl rfl (HC.out _ _ _ _ Ae) ?_;rintro _ dc ⟨dd,de,⟨⟩,ae,bi,df⟩;revert O M Y U V Z X aa hp sx;refine eY bi ?_;intro dg O M Y U V Z X aa hp sx;refine ⟨O,?_⟩;refine tC rfl rfl (HX.out _ _ _ _ Ae) ?_;rintro _ dh ⟨di,dk,⟨⟩,an,bj⟩;revert ae O M Y U V Z X aa hp;refine eY bj ?_;intro dl ae O M Y U V Z X aa hp;refine ⟨O,?_⟩;refine Tq rfl (xB [_,_,_,_,_,_]) ?_;refine AE rfl (xS [_,_,_,_,_,_]) rfl ?_ aFh AC;rintro _ dm ⟨dn,rfl,al,dp⟩;have bk:=al.blk;have bl:=al.ext;have dq:=al.pos;have dr:=al.size;revert an ae O M Y U V Z X aa hp;refine eE bl ?_;intro an ae O M Y U V Z X aa hp;refine ⟨O,?_⟩;refine Ar rfl ?_;refine Ax (GN (sh:=E9) (z:=x) Ac CJ rfl rfl rfl rfl AU rfl rfl rfl Ae (mi Ae) ⟨_,_,_,_,rfl,mV Ae (λb h=>⟨Ab,λe=>by have:=bf _ e;omega⟩),l6 Ae (λb h=>⟨Ab,λe=>by have:=bf _ e;omega⟩),Ae⟩ Ab Ab) rfl ?_ aFh;rintro _ ds ⟨dt,bn,rfl,au,av⟩;have du:=av.size;clear bk an ae bh M;revert Y U V Z X aa hp;refine eF av ?_;intro Y U V Z X aa hp;refine C1 Pf (eV [_] [_,_,_,_,_,_] Y ?_);intro dv dw bm dx;clear Y;revert au U V Z X aa hp;refine eF bm ?_;intro au U V Z X aa hp
     refine eK ?_;exact AA (j+1,xs++[x],some ⟨_,0,none⟩,_) sB ⟨Ae,ax,by simp only;omega,Ae,U,V,aa,Z,hp,X,Ab⟩ (by simp only;omega)
   . have b0:j=g.procs.length:=by omega
     subst b0;rw [im] at am;refine eK ?_;refine eS [_,_,_,_,_,_] Z ?_;intro d9 b2 b3 _;revert M U V X;refine eF b3 ?_;intro M U V X;refine kX b2 ?_;exact cA am U be M V X (λb h=>by omega) (λb h=>by omega) Ab
abbrev BJ:=lB
structure AtV where
 s:BJ
 n:BJ
 ok:Bool
 deriving DecidableEq
def Ce (L:List AtV) (s n:BJ):Bool:=L.any λa=>decide (a.s=s)&&(decide (a.n=n)&&a.ok)
def DV (L:List AtV) (s n:BJ):Nat:=L.countP λa=>decide (a.s=s)&&decide (a.n=n)
def D6 (L:List AtV) (s:BJ):Nat:=L.countP λa=>decide (a.s=s)
def KP (L:List AtV) (s n:BJ) (ok:Bool):List AtV:=if Ce L s n then L else L++[⟨s,n,ok⟩]
def CG (L:List AtV) (s:BJ):List (BJ×Int)->Int
 | []=>0
 | e::es=>(if Ce L s e.1 then e.2 else 0)+CG L s es
section sort
variable {α:Type} (lt:α->α->Bool)
def CH (x:α):List α->List α
 | []=>[x]
 | y::r=>if lt x y then y::CH x r else x::y::r
def Ke (x:α):List α->List α
 | []=>[x]
 | y::r=>if lt y x then y::Ke x r else x::y::r
def FG (l:List α):List α:=(l.foldl (λa x=>CH lt x a) []).reverse
variable {lt}
def mem_insRev {x z:α}:∀ {l:List α},z∈CH lt x l↔z=x\/z∈l
 | []=>by simp [CH]
 | y::r=>by
  unfold CH;split
  . simp only [io,mem_insRev (l:=r)];exact or_left_comm
  . simp
def mem_insL {x z:α}:∀ {l:List α},z∈Ke lt x l↔z=x\/z∈l
 | []=>by simp [Ke]
 | y::r=>by
  unfold Ke;split
  . simp only [io,mem_insL (l:=r)];exact or_left_comm
  . simp
structure Tot (lt:α->α->Bool):Prop where
 irr:∀x,lt x x=false
 tr:∀x y z,lt x y=true->lt y z=true->lt x z=true
 tot:∀x y,x≠y->lt x y=true\/lt y x=true
def IY (h:Tot lt) {x:α}:∀ {l:List α},l.Pairwise (λa b=>lt b a=true)->x∉l->(CH lt x l).Pairwise (λa b=>lt b a=true)
 | [],_,_=>by simp [CH]
 | y::r,O,M=>by
  obtain ⟨U,X⟩:=List.pairwise_cons.1 O;simp only [io,not_or] at M;unfold CH;split
  . rename_i N;refine List.pairwise_cons.2 ⟨λz G=>?_,IY h X M.2⟩;rcases mem_insRev.1 G with rfl|G
    . exact N
    . exact U z G
  . rename_i N;have V:lt y x=true:=(h.tot x y M.1).resolve_left N;refine List.pairwise_cons.2 ⟨λz G=>?_,O⟩;rcases io.1 G with rfl|G
    . exact V
    . exact h.tr _ _ _ (U z G) V
def Ls (h:Tot lt) {x:α}:∀ {l:List α},l.Pairwise (λa b=>lt a b=true)->x∉l->(Ke lt x l).Pairwise (λa b=>lt a b=true)
 | [],_,_=>by simp [Ke]
 | y::r,O,M=>by
  obtain ⟨U,X⟩:=List.pairwise_cons.1 O;simp only [io,not_or] at M;unfold Ke;split
  . rename_i N;refine List.pairwise_cons.2 ⟨λz G=>?_,Ls h X M.2⟩;rcases mem_insL.1 G with rfl|G
    . exact N
    . exact U z G
  . rename_i N;have V:lt x y=true:=(h.tot x y M.1).resolve_right N;refine List.pairwise_cons.2 ⟨λz G=>?_,O⟩;rcases io.1 G with rfl|G
    . exact V
    . exact h.tr _ _ _ V (U z G)
def MN {z:α}:∀(l a:List α),z∈l.foldl (λa x=>CH lt x a) a↔z∈l\/z∈a
 | [],a=>by simp
 | x::l,a=>by
  rw [List.foldl_cons,MN l,mem_insRev,io];constructor
  . rintro (h|h|h)<;>simp [h]
  . rintro ((h|h)|h)<;>simp [h]
def Lt (h:Tot lt):∀(l a:List α),l.Nodup->(∀x∈l,x∉a)->a.Pairwise (λx y=>lt y x=true)->(l.foldl (λa x=>CH lt x a) a).Pairwise (λx y=>lt y x=true)
 | [],_,_,_,G=>G
 | x::l,a,U,N,G=>by
  obtain ⟨V,X⟩:=List.nodup_cons.1 U;refine Lt h l _ X (λy O M=>?_) (IY h G (N x AK));rcases mem_insRev.1 M with rfl|M
  . exact V O
  . exact N y (by simp [O]) M
def Vr {z:α} {l:List α}:z∈FG lt l↔z∈l:=by
 unfold FG;rw [List.mem_reverse,MN];simp
def PM (h:Tot lt) {l:List α} (G:l.Nodup):(FG lt l).Pairwise (λa b=>lt a b=true):=by
 unfold FG;rw [List.pairwise_reverse];exact Lt h l [] G AK List.Pairwise.nil
def G0 (h:Tot lt) {l:List α} (M:l.Pairwise (λa b=>lt a b=true)):l.Nodup:=
 M.imp λ{a b} G e=>by subst e;rw [h.irr] at G;cases G
def Lu (h:Tot lt):∀ {l m:List α},l.Pairwise (λa b=>lt a b=true)->m.Pairwise (λa b=>lt a b=true)->(∀x,x∈l↔x∈m)->l=m
 | [],[],_,_,_=>rfl
 | [],y::m,_,_,G=>absurd ((G y).2 AK) AK
 | x::l,[],_,_,G=>absurd ((G x).1 AK) AK
 | x::l,y::m,X,Y,G=>by
  have O:=G0 h X;have U:=G0 h Y;obtain ⟨Z,h2⟩:=List.pairwise_cons.1 X;obtain ⟨h3,h4⟩:=List.pairwise_cons.1 Y;have V:x=y:=by
   rcases io.1 ((G x).1 AK) with e|hx
   . exact e
   . rcases io.1 ((G y).2 AK) with e|hy
     . exact e.symm
     . have:=h.tr _ _ _ (h3 x hx) (Z y hy);rw [h.irr] at this;cases this
  subst V;rw [Lu h h2 h4 (λz=>?_)];constructor
  . intro N;rcases io.1 ((G z).1 (by simp [N])) with rfl|M
    . exact absurd N (List.nodup_cons.1 O).1
    . exact M
  . intro N;rcases io.1 ((G z).2 (by simp [N])) with rfl|M
    . exact absurd N (List.nodup_cons.1 U).1
    . exact M
end sort
def JB (x y:BJ):Bool:=decide (x<y)
def nlt_tot:Tot JB where
 irr:=λx=>by simp [JB,List.lt_irrefl]
 tr:=λx y z G M=>by
  simp only [JB,decide_eq_true_eq] at *;exact List.lt_trans G M
 tot:=λx y h=>by
  simp only [JB,decide_eq_true_eq];rcases Decidable.em (x<y) with G|G
  . exact gP G
  . rcases Decidable.em (y<x) with M|M
    . exact gQ M
    . exact absurd (List.le_antisymm (List.not_lt.1 M) (List.not_lt.1 G)) h
def SY (L:List AtV) (es:List (BJ×Int)) (x y:BJ):Bool:=
 decide (CG L y es<CG L x es\/(CG L x es=CG L y es/\(D6 L x<D6 L y\/(D6 L x=D6 L y/\x<y))))
def Zj (L:List AtV) (es:List (BJ×Int)):Tot (SY L es) where
 irr:=λx=>by
  have:=List.lt_irrefl x;simp [SY,this]
 tr:=λx y z G M=>by
  simp only [SY,decide_eq_true_eq] at *;have N:x<y->y<z->x<z:=λa b=>List.lt_trans a b
  rcases G with G|⟨G,V|⟨V,O⟩⟩<;>rcases M with M|⟨M,X|⟨X,U⟩⟩ <;>
   first
    | exact gP Ab
    | exact gQ ⟨Ab,gP Ab⟩
    | exact gQ ⟨Ab,gQ ⟨Ab,N O U⟩⟩
 tot:=λx y h=>by
  simp only [SY,decide_eq_true_eq];have N:=nlt_tot.tot x y h;simp only [JB,decide_eq_true_eq] at N;rcases Int.lt_trichotomy (CG L x es) (CG L y es) with G|G|G
  . exact gQ (gP G)
  . rcases kn (D6 L x) (D6 L y) with M|M|M
    . exact gP (gQ ⟨G,gP M⟩)
    . rcases N with N|N
      . exact gP (gQ ⟨G,gQ ⟨M,N⟩⟩)
      . exact gQ (gQ ⟨G.symm,gQ ⟨M.symm,N⟩⟩)
    . exact gQ (gQ ⟨G.symm,gP M⟩)
  . exact gP (gP G)
def Bo (L:List AtV):List BJ:=L.foldl (λo a=>if a.s∈o then o else o++[a.s]) []
def Hy (lt:BJ->BJ->Bool) (L:List AtV):List BJ:=L.foldl (λo a=>if a.s∈o then o else Ke lt a.s o) []
def Iw {lt:BJ->BJ->Bool} (h:Tot lt):∀(L:List AtV) (o:List BJ),o.Pairwise (λa b=>lt a b=true) ->
 (L.foldl (λo a=>if a.s∈o then o else Ke lt a.s o) o).Pairwise (λa b=>lt a b=true) /\ ∀z,z∈L.foldl (λo a=>if a.s∈o then o else Ke lt a.s o) o↔z∈o \/ ∃a∈L,a.s=z
 | [],o,M=>⟨M,λz=>by simp⟩
 | a::L,o,M=>by
  rw [List.foldl_cons];by_cases N:a.s∈o
  . rw [AH N];obtain ⟨O,U⟩:=Iw h L o M;refine ⟨O,λz=>(U z).trans ?_⟩;constructor
    . rintro (h|⟨b,G,e⟩)
      . exact gP h
      . exact gQ ⟨b,by simp [G],e⟩
    . rintro (h|⟨b,G,e⟩)
      . exact gP h
      . rcases io.1 G with rfl|G
        . exact gP (e▸N)
        . exact gQ ⟨b,G,e⟩
  . rw [At N];obtain ⟨O,U⟩:=Iw h L _ (Ls h M N);refine ⟨O,λz=>(U z).trans ?_⟩;rw [mem_insL];constructor
    . rintro ((h|h)|⟨b,G,e⟩)
      . exact gQ ⟨a,AK,h.symm⟩
      . exact gP h
      . exact gQ ⟨b,by simp [G],e⟩
    . rintro (h|⟨b,G,e⟩)
      . exact gP (gQ h)
      . rcases io.1 G with rfl|G
        . exact gP (gP e.symm)
        . exact gQ ⟨b,G,e⟩
def FH:∀(L:List AtV) (o:List BJ),o.Nodup->(L.foldl (λo a=>if a.s∈o then o else o++[a.s]) o).Nodup /\ ∀z,z∈L.foldl (λo a=>if a.s∈o then o else o++[a.s]) o↔z∈o \/ ∃a∈L,a.s=z
 | [],o,M=>⟨M,λz=>by simp⟩
 | a::L,o,M=>by
  rw [List.foldl_cons];by_cases N:a.s∈o
  . rw [AH N];obtain ⟨O,U⟩:=FH L o M;refine ⟨O,λz=>(U z).trans ?_⟩;constructor
    . rintro (h|⟨b,G,e⟩)
      . exact gP h
      . exact gQ ⟨b,by simp [G],e⟩
    . rintro (h|⟨b,G,e⟩)
      . exact gP h
      . rcases io.1 G with rfl|G
        . exact gP (e▸N)
        . exact gQ ⟨b,G,e⟩
  . rw [At N];have X:(o++[a.s]).Nodup:=by
     rw [List.nodup_append];exact ⟨M,AK,λx Y y V e=>N (by simp only [iu] at V;rw [<-V,<-e];exact Y)⟩
    obtain ⟨O,U⟩:=FH L _ X;refine ⟨O,λz=>(U z).trans ?_⟩;rw [i6,iu];constructor
    . rintro ((h|h)|⟨b,G,e⟩)
      . exact gP h
      . exact gQ ⟨a,AK,h.symm⟩
      . exact gQ ⟨b,by simp [G],e⟩
    . rintro (h|⟨b,G,e⟩)
      . exact gP (gP h)
      . rcases io.1 G with rfl|G
        . exact gP (gQ e.symm)
        . exact gQ ⟨b,G,e⟩
def Ol {lt:BJ->BJ->Bool} (h:Tot lt) (L:List AtV) {G:List BJ} (M:G.Nodup) (N:∀z,z∈G↔z∈Bo L):FG lt G=Hy lt L:=by
 obtain ⟨O,U⟩:=Iw h L [] List.Pairwise.nil;obtain ⟨-,V⟩:=FH L [] List.nodup_nil;refine Lu h (PM h M) O (λz=>?_);rw [Vr,N z];exact (V z).trans (U z).symm
section
variable {ns:List BJ} {L:List AtV}
end
open Go.ChangeMaps (setBlock)
def MO (es:List MapEntry) (clock:Nat):Prop:=(es.map (·.born)).Nodup /\ ∀e∈es,e.born<clock
def MapB (w:wD) (r:Nat) (kvs:List (lB×Value)):Prop:= ∃es clock,w.heap[r]? = some (.map es clock)/\Bi es.toList kvs/\MO es.toList clock
def MapB.is {kvs:List (lB×Value)} (h:MapB w r kvs):MapIs w r kvs:=by
 obtain ⟨es,c,G,M,-⟩:=h;exact ⟨es,c,G,M⟩
def MapB.lt {w:wD} {r:Nat} {kvs:List (lB×Value)} (h:MapB w r kvs):r<w.heap.size:=h.is.lt
def MapB.ext {kvs:List (lB×Value)} (h:MapB w r kvs) (x:Ext w w'):MapB w' r kvs:=by
 have G:=h.lt;obtain ⟨es,c,h,e⟩:=h;exact ⟨es,c,by rw [x.block G];exact h,e⟩
instance {kvs:List (lB×Value)}:LfE w w' (MapB w r kvs) (MapB w' r kvs):=⟨λx h=>Bk.MapB.ext h x⟩
def MapB.fr {kvs:List (lB×Value)} (h:MapB w r kvs) (x:Fr S w w') (G:¬S r):MapB w' r kvs:=by
 have M:=h.lt;obtain ⟨es,c,h,e⟩:=h;exact ⟨es,c,by rw [x.block r M G];exact h,e⟩
instance {kvs:List (lB×Value)}:LfF S w w' (MapB w r kvs) (¬S r) (MapB w' r kvs):=⟨λx s h=>Bk.MapB.fr h x s⟩
def ItM (w:wD) (r m:Nat) (lft:List (lB×Value)) (cur:Option (lB×Value)):Prop:=
 ∃es clock seen,w.heap[r]? = some (.mapIter (some m) clock seen clock)/\w.heap[m]? = some (.map es clock)/\MO es.toList clock/\Bi (leftOf es seen).toList lft /\
  ∀p,cur=some p -> ∃e∈es.toList,e.key=str p.1/\e.val=p.2 /\ ∃s':Array Nat,seen=s'.push e.born
def ItM.lt {cur:Option (lB×Value)} (h:ItM w r m G cur):r<w.heap.size/\m<w.heap.size/\r≠m:=by
 obtain ⟨es,c,N,O,M,-⟩:=h;refine ⟨(Array.getElem?_eq_some_iff.1 O).1,(Array.getElem?_eq_some_iff.1 M).1,λe=>?_⟩;subst e;rw [O] at M;cases M
def ItM.ext {cur:Option (lB×Value)} (h:ItM w r m G cur) (x:Ext w w'):ItM w' r m G cur:=by
 obtain ⟨N,O,-⟩:=h.lt;obtain ⟨es,c,M,U,V,X⟩:=h;exact ⟨es,c,M,by rw [x.block N];exact U,by rw [x.block O];exact V,X⟩
instance {cur:Option (lB×Value)}:LfE w w' (ItM w r m G cur) (ItM w' r m G cur):=⟨λx h=>Bk.ItM.ext h x⟩
def ItM.fr {cur:Option (lB×Value)} (h:ItM w r m G cur) (x:Fr S w w') (N:¬S r /\ ¬S m):ItM w' r m G cur:=by
 obtain ⟨O,U,-⟩:=h.lt;obtain ⟨es,c,M,V,X,Y⟩:=h;exact ⟨es,c,M,by rw [x.block r O N.1];exact V,by rw [x.block m U N.2];exact X,Y⟩
instance {cur:Option (lB×Value)}:LfF S w w' (ItM w r m G cur) (¬S r /\ ¬S m) (ItM w' r m G cur):=⟨λx s h=>Bk.ItM.fr h x s⟩
section
variable {P:Program} {l:Sl} {tab:Tab} {ty:TypeId}
def Rd {es:Array MapEntry} {j:Nat} {f:MapEntry->MapEntry} (G:∀e,(f e).born=e.born):(es.modify j f).toList.map (·.born)=es.toList.map (·.born):=by
 apply jG;intro i;rw [iJ,iJ,lz,lz,jN];by_cases h:j=i
 . subst h;cases es[j]? <;> simp [G]
 . simp [h]
def Xf {es G:List MapEntry} {c:Nat} (h:MO es c) (M:G.map (·.born)=es.map (·.born)):MO G c:=by
 obtain ⟨N,O⟩:=h;refine ⟨M▸N,λe U=>?_⟩;have:e.born∈es.map (·.born):=M▸List.mem_map_of_mem U;obtain ⟨x,V,X⟩:=List.mem_map.1 this;rw [<-X];exact O x V
def MP {e aa ab:Nat} {k:lB} {kvs:List (lB×Value)} (T:TabOk P tab) (ht:AB tab t=some (.map m e,aa)) (O:AB tab m=some (.str,ab)) (hm:MapB w r kvs) :
 ∃w1,(Instr.mapUpdate t (.map (some r)) (str k) v).run P w = .ok () w1/\MapB w1 r (Gm kvs k v)/\Fr (· = r) w w1/\w1.heap.size=w.heap.size:=by
 have hu:P.underlying t=some (.map m e):=(T _ _ _ ht).under;have hk:P.underlying m=some .string:=(T _ _ _ O).under;obtain ⟨w1,U,g2,g3,g4⟩:=NJ (P:=P) (k:=k) (v:=v) T ht O hm.is;refine ⟨w1,U,?_,g3,g4⟩;obtain ⟨ac,c1,G,g6⟩:=g2;refine ⟨ac,c1,G,g6,?_⟩;obtain ⟨es,M,hh,he,Z⟩:=hm;have V:r<w.heap.size:=(Array.getElem?_eq_some_iff.1 hh).1;obtain ⟨o,h1,h2,h3⟩:=run_findKey hk (k:=k) he w;have hg:(getObj r).run P w = .ok (.map es M) w:=by simp [getObj,jP,hh]
 have h:∀ob,(setObj r ob).run P w = .ok () { w with heap:=w.heap.setIfInBounds r ob }:=λob=>by simp [setObj,jP,hh]
 cases o with
 | none=>
  simp only [Instr.mapUpdate,ij,AD hu,gY,hg,run_checkKey hk,h1,h,lf,true_and] at U;rw [<-U] at G;simp only [Array.getElem?_setIfInBounds_self,V,if_true,gU,Obj.map.injEq] at G;obtain ⟨rfl,rfl⟩:=G;obtain ⟨b1,b2⟩:=Z;refine ⟨?_,λx N=>?_⟩
  . simp only [Array.toList_push,jm,iR,ky];rw [List.nodup_append];refine ⟨b1,AK,λa ha b ad e1=>?_⟩;obtain ⟨x,N,rfl⟩:=List.mem_map.1 ha;simp only [iu] at ad;have:=b2 x N;omega
  . simp only [Array.toList_push,i6,iu] at N;rcases N with N|rfl
    . have:=b2 x N;omega
    . simp
 | some q=>
  obtain ⟨j,u⟩:=q;obtain ⟨en,q1,q2,q3⟩:=h3 j u rfl;have X:(Instr.keyThatStays (((es[j]?).map (·.key)).getD (str k)) (str k)).run P w = .ok (str k) w:=by
   have:es[j]? = some en:=by simpa using q1
   rw [this];have Z:((⟨k.toArray⟩:ByteArray)==⟨k.toArray⟩)=true:=by rw [O1];simp
   simp [Instr.keyThatStays,q2,Instr.sameBits,Z]
  simp only [Instr.mapUpdate,ij,AD hu,gY,hg,run_checkKey hk,h1,X,h,lf,true_and] at U;rw [<-U] at G;simp only [Array.getElem?_setIfInBounds_self,V,if_true,gU,Obj.map.injEq] at G;obtain ⟨rfl,rfl⟩:=G;exact Xf Z (Rd (λe=>rfl))
def Zk (w:wD) (r:Nat) (kvs:List (lB×Value)):Option Value->wD->Prop
 | none,w1=>MapB w1 r kvs/\Fr (· = r) w w1/\w1.heap.size=w.heap.size
 | some _,_=>False
def Fg {y z:Operand} {e sz1 sz2:Nat} {k:lB} {kvs:List (lB×Value)} (T:TabOk P tab) (ht:AB tab t=some (.map m e,sz1)) (hkt:AB tab m=some (.str,sz2)) (hx:ev l x=some (.map (some r))) (hy:ev l y=some (str k)) (hz:ev l z=some v) (hm:MapB w r kvs) :
 BE P n l (.mapUpdate t x y z) ty w (Zk w r (Gm kvs k v)):=by
 unfold BE;intro a dst pos after g next Q ha _ hn;obtain ⟨w1,h1,h2,h3,h4⟩:=MP (P:=P) (k:=k) (v:=v) T ht hkt hm;have e1:(execOp a.eval ⟨dst,.mapUpdate t x y z,ty,pos,after,g⟩).run P w = .ok .skip w1:=by
  simp only [execOp,ha.ev hx,ha.ev hy,ha.ev hz,ij,h1,gY,iC]
 unfold jy;rw [e1];exact hn w1 ⟨h2,h3,h4⟩
def IZ:BE P n l (.makeMap t none) ty w (Gd λv w1=> ∃r,v = .map (some r)/\r=w.heap.size/\MapB w1 r []/\Ext w w1/\w1.heap.size=r+1):=by
 unfold BE;intro a dst pos after g next Q ha hn _;have e1:(execOp a.eval ⟨dst,.makeMap t none,ty,pos,after,g⟩).run P w = .ok (.value (.map (some w.heap.size))) (w.alloc (.map #[] 0)):=by
  simp [execOp,Instr.makeMap,newObj,jP,bind,Sem.bind,pure]
 unfold jy;rw [e1];exact hn _ _ ⟨_,rfl,rfl,⟨#[],0,by show (w.heap.push _)[w.heap.size]? = _;simp,by simp [Bi],by simp [MO]⟩,(Ne w).alloc _,by show (w.heap.push _).size=_;simp⟩
def Lv {kt e sz:Nat} {kvs:List (lB×Value)} (T:TabOk P tab) (ht:AB tab t=some (.map kt e,sz)) (hx:ev l x=some (.map (some m))) (hm:MapB w m kvs) :
 BE P n l (.range t x) ty w (Gd λo w'=> ∃r,o=pt r/\w.heap.size<=r/\r<w'.heap.size/\ItM w' r m kvs none/\Ext w w'):=by
 unfold BE;intro a dst pos after g next Q ha hn _;have hu:P.underlying t=some (.map kt e):=(T _ _ _ ht).under;have hl:=hm.lt;obtain ⟨es,clock,hh,he,hb⟩:=hm;have e1:(execOp a.eval ⟨dst,.range t x,ty,pos,after,g⟩).run P w = .ok (.value (pt w.heap.size)) (w.alloc (.mapIter (some m) clock #[] clock)):=by
  simp only [execOp,ha.ev hx,Instr.range,ij,AD hu,gY,iC];simp [getObj,newObj,jP,bind,Sem.bind,pure,hh]
 unfold jy;rw [e1];refine hn _ _ ⟨_,rfl,ip _,?_,⟨es,clock,#[],?_,?_,hb,?_,λp hp=>by cases hp⟩,(Ne w).alloc _⟩
 . show w.heap.size<(w.heap.push _).size;rw [Array.size_push];omega
 . show (w.heap.push _)[w.heap.size]? = _;simp
 . exact (((Ne w).alloc _).block hl).trans hh
 . have:leftOf es #[]=es:=by unfold leftOf;simp
   rw [this];exact he
def MQ {e:MapEntry}:∀ {L:List MapEntry},(L.map (·.born)).Nodup->e∈L -> ∃j:Nat,L[j]? = some e/\L.filter (λx=>x.born != e.born)=L.eraseIdx j
 | [],_,h=>by cases h
 | x::L,G,h=>by
  rw [iR,List.nodup_cons] at G;obtain ⟨M,O⟩:=G;by_cases N:x=e
  . subst N;refine ⟨0,rfl,?_⟩;simp only [List.filter_cons,bne_self_eq_false,iS,if_false,List.eraseIdx_cons_zero];rw [List.filter_eq_self];intro y U;have:y.born≠x.born:=λe=>M (e▸List.mem_map_of_mem U)
    simpa using this
  . rcases io.1 h with rfl|h
    . exact absurd rfl N
    . obtain ⟨j,V,X⟩:=MQ O h;have:x.born≠e.born:=λY=>M (Y▸List.mem_map_of_mem h)
      exact ⟨j+1,by simpa using V,by simp [List.filter_cons,this,X]⟩
def KQ {α β:Type} (f:α->β):∀(L:List α) (j:Nat),(L.eraseIdx j).map f=(L.map f).eraseIdx j
 | [],_=>by simp
 | x::L,0=>by simp
 | x::L,j+1=>by simp [KQ f L j]
def Re (es:Array MapEntry) (h:Array Nat) (b:Nat):(leftOf es (h.push b)).toList=(leftOf es h).toList.filter (λx=>x.born != b):=by
 unfold leftOf;rw [Array.toList_filter,Array.toList_filter,List.filter_filter];congr 1;funext x;simp only [Array.contains_push,Bool.not_or,bne];rw [Bool.and_comm]
def MR {cur:Option (lB×Value)} (hx:ev l x=some (pt r)) (hi:ItM w r m G cur) (hl:G≠[]) :
 BE P n l (.next x false) ty w (Gd λo w'=> ∃(j:Nat) (p:lB×Value),G[j]? = some p/\o = .tuple #[.bool true,str p.1,p.2]/\ItM w' r m (G.eraseIdx j) (some p)/\Fr (· = r) w w'):=by
 unfold BE;intro a dst pos after g next Q ha hn _;obtain ⟨es,c,seen,h1,h2,hb,h3,-⟩:=hi;rcases run_next_at (P:=P) w ty r m c c seen es c h1 h2 hb.2 (ip _) with ⟨h0,-⟩|⟨e,he,w1,hw,hr⟩
 . have:(leftOf es seen).toList=[]:=by simpa using h0
   rw [this] at h3;unfold Bi at h3;exact absurd (List.map_eq_nil_iff.1 h3.symm) hl
 . have hsub:(leftOf es seen).toList.Sublist es.toList:=by unfold leftOf;rw [Array.toList_filter];exact List.filter_sublist
   have hes:e∈es.toList:=hsub.subset he;obtain ⟨j,g1,g2⟩:=MQ ((hsub.map (·.born)).nodup hb.1) he;have g3:((leftOf es seen).toList.map λe=>(e.key,e.val))[j]? = some (e.key,e.val):=by rw [iJ,g1];rfl
   unfold Bi at h3;rw [h3,iJ] at g3;obtain ⟨p,hp,hpe⟩:=lu.1 g3;obtain ⟨k1,k2⟩:=ku hpe;have hW:w1.heap=w.heap:=by rcases hw with rfl|rfl<;>rfl
   have X1:Ext w w1:=by rcases hw with rfl|rfl;exact Ne _;exact (Ne w).drew
   obtain ⟨p1,p2⟩:=I3 w1 r _ (.mapIter (some m) c (seen.push e.born) c) (by rw [hW];exact h1);have hne:r≠m:=λq=>by subst q;rw [h1] at h2;cases h2
   have e1:(execOp a.eval ⟨dst,.next x false,ty,pos,after,g⟩).run P w = .ok (.value (.tuple #[.bool true,e.key,e.val])) (setBlock w1 r (.mapIter (some m) c (seen.push e.born) c)):=by
    simp only [execOp,ha.ev hx,ij,hr,gY,iC]
   unfold jy;rw [e1];refine hn _ _ ⟨j,p,hp,by rw [<-k1,<-k2],⟨es,c,seen.push e.born,p1,?_,hb,?_,λq hq=>?_⟩,(lX X1).trans p2⟩
   . have hm:m<w1.heap.size:=by rw [hW];exact (Array.getElem?_eq_some_iff.1 h2).1
     exact (p2.block m hm (λq=>hne q.symm)).trans (by rw [hW];exact h2)
   . unfold Bi;rw [Re,g2,KQ,h3,KQ]
   . obtain rfl:=gZ hq;exact ⟨e,hes,k1.symm,k2.symm,seen,rfl⟩
def Lw {cur:Option (lB×Value)} (hx:ev l x=some (pt r)) (hi:ItM w r m [] cur) :
 BE P n l (.next x false) ty w (Gd λo w'=>o = .tuple #[.bool false]/\w'=w):=by
 unfold BE;intro a dst pos after g next Q ha hn _;obtain ⟨es,c,seen,h1,h2,hb,h3,-⟩:=hi;rcases run_next_at (P:=P) w ty r m c c seen es c h1 h2 hb.2 (ip _) with ⟨-,hr⟩|⟨e,he,-⟩
 . have e1:(execOp a.eval ⟨dst,.next x false,ty,pos,after,g⟩).run P w = .ok (.value (.tuple #[.bool false])) w:=by
    simp only [execOp,ha.ev hx,ij,hr,gY,iC]
   unfold jy;rw [e1];exact hn _ _ ⟨rfl,rfl⟩
 . unfold Bi at h3;rw [ky,List.map_eq_nil_iff] at h3;rw [h3] at he;cases he
def Om {S:wD->Prop} {h:List (lB×Value)} {p:lB×Value} (M:ev l x=some (pt r)) (N:∀w,S w->ItM w r m h (some p)) :
 Br P n l S (.entry x) ty (.tuple #[str p.1,p.2]):=by
 unfold Br;intro s w O pos after g U V;obtain ⟨es,c,G,X,Y,Z,h3,h4⟩:=N w V;obtain ⟨e,he,k1,k2,s',rfl⟩:=h4 p rfl;have:=run_entry_at (P:=P) w r m c s' es c e X Y he Z.1;simp only [execOp,U.ev M,ij,this,gY,iC,k1,k2]
end
end Bk
